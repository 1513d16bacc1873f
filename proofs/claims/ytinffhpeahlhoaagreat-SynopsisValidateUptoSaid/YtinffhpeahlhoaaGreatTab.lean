/- The table of the types of this seat, made by program. -/
import Derived.Test.YtinffhpeahlhoaaGreatChecked
import Derived.Test.YtinffhpeahlhoaaGreatVc
namespace Go.Proofs.YtinffhpeahlhoaaGreat
open Go.Vc

def tab : Tab := [
  (2, ⟨.int .i64, 1, 8, [.int .i64 0], [], []⟩),
  (3, ⟨.int .i64, 1, 8, [.int .i64 0], [], []⟩),
  (61, ⟨.struct [(0, 8), (8, 4), (12, 5), (17, 6), (23, 7), (30, 6), (36, 4), (40, 2), (42, 5), (47, 1), (48, 4), (52, 5)], 57, 632, [.int .i64 0, .int .i64 0, .int .i64 0, .int .i64 0, .int .i64 0, .int .i64 0, .int .i64 0, .int .i64 0, .int .i64 0, .int .i64 0, .int .i64 0, .nilS, .int .i64 0, .int .i64 0, .int .i64 0, .int .i64 0, .nilS, .int .i64 0, .int .i64 0, .int .i64 0, .int .i64 0, .int .i64 0, .nilS, .int .i64 0, .int .i64 0, .int .i64 0, .int .i64 0, .int .i64 0, .int .i64 0, .nilS, .int .i64 0, .int .i64 0, .int .i64 0, .int .i64 0, .int .i64 0, .nilS, .int .i64 0, .int .i64 0, .int .i64 0, .nilS, .int .i64 0, .nilS, .bool false, .int .i64 0, .int .i64 0, .int .i64 0, .nilS, .nilS, .int .i64 0, .int .i64 0, .int .i64 0, .nilS, .int .i64 0, .int .i64 0, .int .i64 0, .int .i64 0, .nilS], [], [.junk, .junk, .junk, .junk, .junk, .junk, .junk, .junk, .junk, .junk, .junk, .lst 2 false [], .junk, .junk, .junk, .junk, .lst 2 false [], .junk, .junk, .junk, .junk, .junk, .lst 2 false [], .junk, .junk, .junk, .junk, .junk, .junk, .lst 7 false [], .junk, .junk, .junk, .junk, .junk, .lst 7 false [], .junk, .junk, .junk, .lst 2 false [], .junk, .lst 1 false [], .junk, .junk, .junk, .junk, .lst 2 false [], .lst 5 false [], .junk, .junk, .junk, .lst 3 false [], .junk, .junk, .junk, .junk, .lst 5 false []]⟩),
  (191, ⟨.struct [(0, 1), (1, 1), (2, 1), (3, 1), (4, 1), (5, 1), (6, 1)], 7, 56, [.int .i64 0, .int .i64 0, .int .i64 0, .int .i64 0, .int .i64 0, .int .i64 0, .int .i64 0], [true, true, true, true, true, true, true], []⟩),
  (30, ⟨.struct [(0, 1), (1, 1), (2, 1), (3, 1), (4, 1), (5, 1), (6, 1), (7, 1)], 8, 64, [.int .i64 0, .int .i64 0, .int .i64 0, .int .i64 0, .int .i64 0, .int .i64 0, .int .i64 0, .int .i64 0], [true, true, true, true, true, true, true, true], []⟩),
  (123, ⟨.struct [(0, 1), (1, 1), (2, 1), (3, 1), (4, 1)], 5, 56, [.int .i64 0, .int .i64 0, .int .i64 0, .int .i64 0, .nilS], [], [.junk, .junk, .junk, .junk, .lst 2 false []]⟩),
  (199, ⟨.struct [(0, 1), (1, 1)], 2, 16, [.int .u64 0, .int .u64 0], [true, true], []⟩),
  (126, ⟨.struct [(0, 1), (1, 1)], 2, 32, [.int .i64 0, .nilS], [], [.junk, .lst 3 false []]⟩),
  (41, ⟨.struct [(0, 1), (1, 1), (2, 1), (3, 1), (4, 1), (5, 1), (6, 1)], 7, 72, [.int .i64 0, .int .i64 0, .int .i64 0, .int .i64 0, .int .i64 0, .int .i64 0, .nilS], [], [.junk, .junk, .junk, .junk, .junk, .junk, .lst 7 false []]⟩),
  (39, ⟨.slice 191, 1, 24, [.nilS], [], [.lst 7 false []]⟩),
  (43, ⟨.struct [(0, 1), (1, 1), (2, 1), (3, 1), (4, 1), (5, 1)], 6, 64, [.int .i64 0, .int .i64 0, .int .i64 0, .int .i64 0, .int .i64 0, .nilS], [], [.junk, .junk, .junk, .junk, .junk, .lst 7 false []]⟩),
  (124, ⟨.slice 255, 1, 24, [.nilS], [], [.lst 3 false []]⟩),
  (33, ⟨.struct [(0, 1), (1, 1), (2, 1), (3, 1)], 4, 48, [.int .i64 0, .int .i64 0, .int .i64 0, .nilS], [], [.junk, .junk, .junk, .lst 2 false []]⟩),
  (46, ⟨.struct [(0, 1), (1, 1), (2, 1), (3, 1)], 4, 48, [.int .i64 0, .int .i64 0, .int .i64 0, .nilS], [], [.junk, .junk, .junk, .lst 2 false []]⟩),
  (31, ⟨.slice 183, 1, 24, [.nilS], [], [.lst 2 false []]⟩),
  (50, ⟨.struct [(0, 1), (1, 1), (2, 1), (3, 1), (4, 1)], 5, 56, [.bool false, .int .i64 0, .int .i64 0, .int .i64 0, .nilS], [], [.junk, .junk, .junk, .junk, .lst 2 false []]⟩),
  (64, ⟨.int .i64, 1, 8, [.int .i64 0], [], []⟩),
  (197, ⟨.int .u64, 1, 8, [.int .u64 0], [], []⟩),
  (59, ⟨.struct [(0, 1), (1, 1), (2, 1), (3, 1), (4, 1)], 5, 56, [.int .i64 0, .int .i64 0, .int .i64 0, .int .i64 0, .nilS], [], [.junk, .junk, .junk, .junk, .lst 5 false []]⟩),
  (38, ⟨.struct [(0, 1), (1, 1), (2, 1), (3, 1), (4, 1), (5, 1)], 6, 64, [.int .i64 0, .int .i64 0, .int .i64 0, .int .i64 0, .int .i64 0, .nilS], [], [.junk, .junk, .junk, .junk, .junk, .lst 2 false []]⟩),
  (255, ⟨.struct [(0, 1), (1, 1), (2, 1)], 3, 24, [.int .i64 0, .int .i64 0, .int .i64 0], [true, true, true], []⟩),
  (22, ⟨.slice 63, 1, 24, [.nilS], [], [.lst 58 false []]⟩),
  (53, ⟨.struct [(0, 1)], 1, 24, [.nilS], [], [.lst 5 false []]⟩),
  (36, ⟨.struct [(0, 1), (1, 1), (2, 1), (3, 1), (4, 1)], 5, 56, [.int .i64 0, .int .i64 0, .int .i64 0, .int .i64 0, .nilS], [], [.junk, .junk, .junk, .junk, .lst 2 false []]⟩),
  (34, ⟨.slice 221, 1, 24, [.nilS], [], [.lst 2 false []]⟩),
  (48, ⟨.struct [(0, 1), (1, 1)], 2, 32, [.int .i64 0, .nilS], [], [.junk, .lst 1 false []]⟩),
  (27, ⟨.slice 2, 1, 24, [.nilS], [], [.lst 1 false []]⟩),
  (56, ⟨.struct [(0, 1), (1, 1), (2, 1), (3, 1)], 4, 48, [.int .i64 0, .int .i64 0, .int .i64 0, .nilS], [], [.junk, .junk, .junk, .lst 3 false []]⟩),
  (51, ⟨.slice 123, 1, 24, [.nilS], [], [.lst 5 false []]⟩),
  (63, ⟨.struct [(0, 1), (1, 57)], 58, 640, [.int .i64 0, .int .i64 0, .int .i64 0, .int .i64 0, .int .i64 0, .int .i64 0, .int .i64 0, .int .i64 0, .int .i64 0, .int .i64 0, .int .i64 0, .int .i64 0, .nilS, .int .i64 0, .int .i64 0, .int .i64 0, .int .i64 0, .nilS, .int .i64 0, .int .i64 0, .int .i64 0, .int .i64 0, .int .i64 0, .nilS, .int .i64 0, .int .i64 0, .int .i64 0, .int .i64 0, .int .i64 0, .int .i64 0, .nilS, .int .i64 0, .int .i64 0, .int .i64 0, .int .i64 0, .int .i64 0, .nilS, .int .i64 0, .int .i64 0, .int .i64 0, .nilS, .int .i64 0, .nilS, .bool false, .int .i64 0, .int .i64 0, .int .i64 0, .nilS, .nilS, .int .i64 0, .int .i64 0, .int .i64 0, .nilS, .int .i64 0, .int .i64 0, .int .i64 0, .int .i64 0, .nilS], [], [.junk, .junk, .junk, .junk, .junk, .junk, .junk, .junk, .junk, .junk, .junk, .junk, .lst 2 false [], .junk, .junk, .junk, .junk, .lst 2 false [], .junk, .junk, .junk, .junk, .junk, .lst 2 false [], .junk, .junk, .junk, .junk, .junk, .junk, .lst 7 false [], .junk, .junk, .junk, .junk, .junk, .lst 7 false [], .junk, .junk, .junk, .lst 2 false [], .junk, .lst 1 false [], .junk, .junk, .junk, .junk, .lst 2 false [], .lst 5 false [], .junk, .junk, .junk, .lst 3 false [], .junk, .junk, .junk, .junk, .lst 5 false []]⟩),
  (121, ⟨.slice 223, 1, 24, [.nilS], [], [.lst 2 false []]⟩),
  (57, ⟨.slice 128, 1, 24, [.nilS], [], [.lst 5 false []]⟩),
  (44, ⟨.slice 199, 1, 24, [.nilS], [], [.lst 2 false []]⟩),
  (183, ⟨.struct [(0, 1), (1, 1)], 2, 16, [.int .i64 0, .int .i64 0], [true, true], []⟩),
  (128, ⟨.struct [(0, 1), (1, 1), (2, 1), (3, 2)], 5, 56, [.int .i64 0, .int .i64 0, .int .i64 0, .int .i64 0, .nilS], [], [.junk, .junk, .junk, .junk, .lst 3 false []]⟩),
  (221, ⟨.struct [(0, 1), (1, 1)], 2, 16, [.int .i64 0, .int .i64 0], [true, true], []⟩),
  (54, ⟨.slice 163, 1, 24, [.nilS], [], [.lst 3 false []]⟩),
  (4, ⟨.bool, 1, 1, [.bool false], [], []⟩),
  (163, ⟨.struct [(0, 1), (1, 1), (2, 1)], 3, 24, [.int .i64 0, .int .i64 0, .int .i64 0], [true, true, true], []⟩),
  (223, ⟨.struct [(0, 1), (1, 1)], 2, 16, [.int .i64 0, .int .i64 0], [true, true], []⟩),
  (145, ⟨.slice 146, 1, 24, [.nilS], [], [.lst 1 false []]⟩),
  (242, ⟨.struct [(0, 1), (1, 1), (2, 1)], 3, 40, [.nilS, .int .i64 0, .int .i64 0], [], [.lst 1 false [], .junk, .junk]⟩),
  (219, ⟨.int .u64, 1, 8, [.int .u64 0], [], []⟩),
  (256, ⟨.array 31 3, 31, 248, [.int .i64 0, .int .i64 0, .int .i64 0, .int .i64 0, .int .i64 0, .int .i64 0, .int .i64 0, .int .i64 0, .int .i64 0, .int .i64 0, .int .i64 0, .int .i64 0, .int .i64 0, .int .i64 0, .int .i64 0, .int .i64 0, .int .i64 0, .int .i64 0, .int .i64 0, .int .i64 0, .int .i64 0, .int .i64 0, .int .i64 0, .int .i64 0, .int .i64 0, .int .i64 0, .int .i64 0, .int .i64 0, .int .i64 0, .int .i64 0, .int .i64 0], [], []⟩),
  (267, ⟨.slice 3, 1, 24, [.nilS], [], [.lst 1 false []]⟩),
  (146, ⟨.pointer 3, 1, 8, [.nilp], [], []⟩)]

theorem tab_ok : TabOk Tryz.prog tab := tabB_spec (by kernel_rfl)

theorem orders_ok : Tryz.prog.follows .mixedOrders = true := by kernel_rfl

end Go.Proofs.YtinffhpeahlhoaaGreat
