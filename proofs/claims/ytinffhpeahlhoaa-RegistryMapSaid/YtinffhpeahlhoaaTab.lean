/- The table of the types of this seat, made by program. -/
import Derived.Test.YtinffhpeahlhoaaChecked
import Derived.Test.YtinffhpeahlhoaaVc
namespace Go.Proofs.Ytinffhpeahlhoaa
open Go.Vc

def tab : Tab := [
  (2, ⟨.int .i64, 1, 8, [.int .i64 0], [], []⟩),
  (3, ⟨.int .i64, 1, 8, [.int .i64 0], [], []⟩),
  (31, ⟨.struct [(0, 1), (1, 1), (2, 1), (3, 1), (4, 1), (5, 1), (6, 1), (7, 1)], 8, 64, [.int .i64 0, .int .i64 0, .int .i64 0, .int .i64 0, .int .i64 0, .int .i64 0, .int .i64 0, .int .i64 0], [true, true, true, true, true, true, true, true], []⟩),
  (142, ⟨.struct [(0, 1), (1, 1), (2, 1), (3, 1), (4, 1), (5, 1), (6, 1)], 7, 56, [.int .i64 0, .int .i64 0, .int .i64 0, .int .i64 0, .int .i64 0, .int .i64 0, .int .i64 0], [], []⟩),
  (147, ⟨.struct [(0, 1), (1, 1)], 2, 16, [.int .u64 0, .int .u64 0], [true, true], []⟩),
  (62, ⟨.struct [(0, 8), (8, 4), (12, 5), (17, 6), (23, 7), (30, 6), (36, 4), (40, 2), (42, 5), (47, 1), (48, 4), (52, 5)], 57, 632, [.int .i64 0, .int .i64 0, .int .i64 0, .int .i64 0, .int .i64 0, .int .i64 0, .int .i64 0, .int .i64 0, .int .i64 0, .int .i64 0, .int .i64 0, .nilS, .int .i64 0, .int .i64 0, .int .i64 0, .int .i64 0, .nilS, .int .i64 0, .int .i64 0, .int .i64 0, .int .i64 0, .int .i64 0, .nilS, .int .i64 0, .int .i64 0, .int .i64 0, .int .i64 0, .int .i64 0, .int .i64 0, .nilS, .int .i64 0, .int .i64 0, .int .i64 0, .int .i64 0, .int .i64 0, .nilS, .int .i64 0, .int .i64 0, .int .i64 0, .nilS, .int .i64 0, .nilS, .bool false, .int .i64 0, .int .i64 0, .int .i64 0, .nilS, .nilS, .int .i64 0, .int .i64 0, .int .i64 0, .nilS, .int .i64 0, .int .i64 0, .int .i64 0, .int .i64 0, .nilS], [], [.junk, .junk, .junk, .junk, .junk, .junk, .junk, .junk, .junk, .junk, .junk, .lst 2 false [], .junk, .junk, .junk, .junk, .lst 2 false [], .junk, .junk, .junk, .junk, .junk, .lst 2 false [], .junk, .junk, .junk, .junk, .junk, .junk, .lst 7 false [], .junk, .junk, .junk, .junk, .junk, .lst 7 false [], .junk, .junk, .junk, .lst 2 false [], .junk, .lst 1 false [], .junk, .junk, .junk, .junk, .lst 2 false [], .lst 5 false [], .junk, .junk, .junk, .lst 3 false [], .junk, .junk, .junk, .junk, .lst 5 false []]⟩),
  (22, ⟨.slice 72, 1, 24, [.nilS], [], [.lst 58 false []]⟩),
  (145, ⟨.int .u64, 1, 8, [.int .u64 0], [], []⟩),
  (110, ⟨.struct [(0, 1), (1, 1), (2, 1), (3, 1), (4, 1)], 5, 56, [.int .i64 0, .int .i64 0, .int .i64 0, .int .i64 0, .nilS], [], [.junk, .junk, .junk, .junk, .lst 2 false []]⟩),
  (42, ⟨.struct [(0, 1), (1, 1), (2, 1), (3, 1), (4, 1), (5, 1), (6, 1)], 7, 72, [.int .i64 0, .int .i64 0, .int .i64 0, .int .i64 0, .int .i64 0, .int .i64 0, .nilS], [], [.junk, .junk, .junk, .junk, .junk, .junk, .lst 7 false []]⟩),
  (57, ⟨.struct [(0, 1), (1, 1), (2, 1), (3, 1)], 4, 48, [.int .i64 0, .int .i64 0, .int .i64 0, .nilS], [], [.junk, .junk, .junk, .lst 3 false []]⟩),
  (4, ⟨.bool, 1, 1, [.bool false], [], []⟩),
  (44, ⟨.struct [(0, 1), (1, 1), (2, 1), (3, 1), (4, 1), (5, 1)], 6, 64, [.int .i64 0, .int .i64 0, .int .i64 0, .int .i64 0, .int .i64 0, .nilS], [], [.junk, .junk, .junk, .junk, .junk, .lst 7 false []]⟩),
  (72, ⟨.struct [(0, 1), (1, 57)], 58, 640, [.int .i64 0, .int .i64 0, .int .i64 0, .int .i64 0, .int .i64 0, .int .i64 0, .int .i64 0, .int .i64 0, .int .i64 0, .int .i64 0, .int .i64 0, .int .i64 0, .nilS, .int .i64 0, .int .i64 0, .int .i64 0, .int .i64 0, .nilS, .int .i64 0, .int .i64 0, .int .i64 0, .int .i64 0, .int .i64 0, .nilS, .int .i64 0, .int .i64 0, .int .i64 0, .int .i64 0, .int .i64 0, .int .i64 0, .nilS, .int .i64 0, .int .i64 0, .int .i64 0, .int .i64 0, .int .i64 0, .nilS, .int .i64 0, .int .i64 0, .int .i64 0, .nilS, .int .i64 0, .nilS, .bool false, .int .i64 0, .int .i64 0, .int .i64 0, .nilS, .nilS, .int .i64 0, .int .i64 0, .int .i64 0, .nilS, .int .i64 0, .int .i64 0, .int .i64 0, .int .i64 0, .nilS], [], [.junk, .junk, .junk, .junk, .junk, .junk, .junk, .junk, .junk, .junk, .junk, .junk, .lst 2 false [], .junk, .junk, .junk, .junk, .lst 2 false [], .junk, .junk, .junk, .junk, .junk, .lst 2 false [], .junk, .junk, .junk, .junk, .junk, .junk, .lst 7 false [], .junk, .junk, .junk, .junk, .junk, .lst 7 false [], .junk, .junk, .junk, .lst 2 false [], .junk, .lst 1 false [], .junk, .junk, .junk, .junk, .lst 2 false [], .lst 5 false [], .junk, .junk, .junk, .lst 3 false [], .junk, .junk, .junk, .junk, .lst 5 false []]⟩),
  (60, ⟨.struct [(0, 1), (1, 1), (2, 1), (3, 1), (4, 1)], 5, 56, [.int .i64 0, .int .i64 0, .int .i64 0, .int .i64 0, .nilS], [], [.junk, .junk, .junk, .junk, .lst 5 false []]⟩),
  (39, ⟨.struct [(0, 1), (1, 1), (2, 1), (3, 1), (4, 1), (5, 1)], 6, 64, [.int .i64 0, .int .i64 0, .int .i64 0, .int .i64 0, .int .i64 0, .nilS], [], [.junk, .junk, .junk, .junk, .junk, .lst 2 false []]⟩),
  (51, ⟨.struct [(0, 1), (1, 1), (2, 1), (3, 1), (4, 1)], 5, 56, [.bool false, .int .i64 0, .int .i64 0, .int .i64 0, .nilS], [], [.junk, .junk, .junk, .junk, .lst 2 false []]⟩),
  (37, ⟨.struct [(0, 1), (1, 1), (2, 1), (3, 1), (4, 1)], 5, 56, [.int .i64 0, .int .i64 0, .int .i64 0, .int .i64 0, .nilS], [], [.junk, .junk, .junk, .junk, .lst 2 false []]⟩),
  (40, ⟨.slice 142, 1, 24, [.nilS], [], [.lst 7 false []]⟩),
  (34, ⟨.struct [(0, 1), (1, 1), (2, 1), (3, 1)], 4, 48, [.int .i64 0, .int .i64 0, .int .i64 0, .nilS], [], [.junk, .junk, .junk, .lst 2 false []]⟩),
  (47, ⟨.struct [(0, 1), (1, 1), (2, 1), (3, 1)], 4, 48, [.int .i64 0, .int .i64 0, .int .i64 0, .nilS], [], [.junk, .junk, .junk, .lst 2 false []]⟩),
  (35, ⟨.slice 136, 1, 24, [.nilS], [], [.lst 2 false []]⟩),
  (161, ⟨.struct [(0, 1), (1, 1)], 2, 32, [.int .i64 0, .nilS], [], [.junk, .lst 3 false []]⟩),
  (28, ⟨.slice 2, 1, 24, [.nilS], [], [.lst 1 false []]⟩),
  (32, ⟨.slice 131, 1, 24, [.nilS], [], [.lst 2 false []]⟩),
  (159, ⟨.slice 177, 1, 24, [.nilS], [], [.lst 3 false []]⟩),
  (54, ⟨.struct [(0, 1)], 1, 24, [.nilS], [], [.lst 5 false []]⟩),
  (136, ⟨.struct [(0, 1), (1, 1)], 2, 16, [.int .i64 0, .int .i64 0], [], []⟩),
  (63, ⟨.int .i64, 1, 8, [.int .i64 0], [], []⟩),
  (114, ⟨.slice 115, 1, 24, [.nilS], [], [.lst 1 false []]⟩),
  (131, ⟨.struct [(0, 1), (1, 1)], 2, 16, [.int .i64 0, .int .i64 0], [], []⟩),
  (49, ⟨.struct [(0, 1), (1, 1)], 2, 32, [.int .i64 0, .nilS], [], [.junk, .lst 1 false []]⟩),
  (52, ⟨.slice 110, 1, 24, [.nilS], [], [.lst 5 false []]⟩),
  (156, ⟨.struct [(0, 1), (1, 1), (2, 1)], 3, 24, [.int .i64 0, .int .i64 0, .int .i64 0], [], []⟩),
  (177, ⟨.struct [(0, 1), (1, 1), (2, 1)], 3, 24, [.int .i64 0, .int .i64 0, .int .i64 0], [], []⟩),
  (55, ⟨.slice 156, 1, 24, [.nilS], [], [.lst 3 false []]⟩),
  (58, ⟨.slice 163, 1, 24, [.nilS], [], [.lst 5 false []]⟩),
  (108, ⟨.slice 171, 1, 24, [.nilS], [], [.lst 2 false []]⟩),
  (163, ⟨.struct [(0, 1), (1, 1), (2, 1), (3, 2)], 5, 56, [.int .i64 0, .int .i64 0, .int .i64 0, .int .i64 0, .nilS], [], [.junk, .junk, .junk, .junk, .lst 3 false []]⟩),
  (45, ⟨.slice 147, 1, 24, [.nilS], [], [.lst 2 false []]⟩),
  (171, ⟨.struct [(0, 1), (1, 1)], 2, 16, [.int .i64 0, .int .i64 0], [], []⟩),
  (66, ⟨.slice 4, 1, 24, [.nilS], [], [.lst 1 false []]⟩),
  (164, ⟨.array 31 3, 31, 248, [.int .i64 0, .int .i64 0, .int .i64 0, .int .i64 0, .int .i64 0, .int .i64 0, .int .i64 0, .int .i64 0, .int .i64 0, .int .i64 0, .int .i64 0, .int .i64 0, .int .i64 0, .int .i64 0, .int .i64 0, .int .i64 0, .int .i64 0, .int .i64 0, .int .i64 0, .int .i64 0, .int .i64 0, .int .i64 0, .int .i64 0, .int .i64 0, .int .i64 0, .int .i64 0, .int .i64 0, .int .i64 0, .int .i64 0, .int .i64 0, .int .i64 0], [], []⟩),
  (104, ⟨.int .u64, 1, 8, [.int .u64 0], [], []⟩),
  (115, ⟨.pointer 3, 1, 8, [.nilp], [], []⟩)]

theorem tab_ok : TabOk Try.prog tab := tabB_spec (by kernel_rfl)

theorem orders_ok : Try.prog.follows .mixedOrders = true := by kernel_rfl

end Go.Proofs.Ytinffhpeahlhoaa
