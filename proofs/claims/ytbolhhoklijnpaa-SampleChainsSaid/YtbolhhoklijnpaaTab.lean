/- The table of the types of this seat, made by program. -/
import Derived.Test.YtbolhhoklijnpaaChecked
import Derived.Test.YtbolhhoklijnpaaVc
namespace Go.Proofs.Ytbolhhoklijnpaa
open Go.Vc

def tab : Tab := [
  (30, ⟨.struct [(0, 1), (1, 1)], 2, 16, [.int .u64 0, .int .u64 0], [true, true], []⟩),
  (2, ⟨.int .i64, 1, 8, [.int .i64 0], [], []⟩),
  (78, ⟨.struct [(0, 1), (1, 1), (2, 1), (3, 1), (4, 1)], 5, 56, [.int .i64 0, .int .i64 0, .int .i64 0, .int .i64 0, .nilS], [], [.junk, .junk, .junk, .junk, .lst 2 false []]⟩),
  (28, ⟨.int .u64, 1, 8, [.int .u64 0], [], []⟩),
  (61, ⟨.struct [(0, 1)], 1, 24, [.nilS], [], [.lst 5 false []]⟩),
  (50, ⟨.slice 2, 1, 24, [.nilS], [], [.lst 1 false []]⟩),
  (3, ⟨.int .i64, 1, 8, [.int .i64 0], [], []⟩),
  (76, ⟨.slice 183, 1, 24, [.nilS], [], [.lst 2 false []]⟩),
  (59, ⟨.slice 78, 1, 24, [.nilS], [], [.lst 5 false []]⟩),
  (103, ⟨.struct [(0, 1), (1, 1)], 2, 16, [.int .i64 0, .int .i64 0], [], []⟩),
  (40, ⟨.slice 5, 1, 24, [.nilS], [], [.lst 1 false []]⟩),
  (92, ⟨.struct [(0, 1), (1, 1)], 2, 16, [.int .i64 0, .int .i64 0], [], []⟩),
  (41, ⟨.int .i64, 1, 8, [.int .i64 0], [], []⟩),
  (22, ⟨.slice 103, 1, 24, [.nilS], [], [.lst 2 false []]⟩),
  (183, ⟨.struct [(0, 1), (1, 1)], 2, 16, [.int .i64 0, .int .i64 0], [true, true], []⟩),
  (54, ⟨.struct [(0, 1), (1, 1), (2, 8), (10, 1), (11, 1), (12, 1), (13, 3), (16, 1)], 17, 168, [.int .i64 0, .int .i64 0, .int .i64 0, .int .i64 0, .int .i64 0, .int .i64 0, .int .i64 0, .int .i64 0, .int .i64 0, .int .i64 0, .int .i64 0, .int .i64 0, .nilS, .int .i64 0, .int .i64 0, .int .i64 0, .nilS], [], [.junk, .junk, .junk, .junk, .junk, .junk, .junk, .junk, .junk, .junk, .junk, .junk, .lst 1 false [], .junk, .junk, .junk, .lst 1 false []]⟩),
  (35, ⟨.struct [(0, 2), (2, 2)], 4, 32, [.int .u64 0, .int .u64 0, .int .u64 0, .int .u64 0], [], []⟩),
  (49, ⟨.struct [(0, 1), (1, 1), (2, 1), (3, 1), (4, 1), (5, 1), (6, 1), (7, 1)], 8, 64, [.int .i64 0, .int .i64 0, .int .i64 0, .int .i64 0, .int .i64 0, .int .i64 0, .int .i64 0, .int .i64 0], [], []⟩),
  (145, ⟨.struct [(0, 1), (1, 1), (2, 1)], 3, 40, [.nilS, .int .i64 0, .int .i64 0], [], [.lst 1 false [], .junk, .junk]⟩),
  (4, ⟨.bool, 1, 1, [.bool false], [], []⟩),
  (98, ⟨.struct [(0, 1), (1, 11), (12, 1), (13, 1)], 14, 160, [.int .i64 0, .int .i64 0, .int .i64 0, .int .i64 0, .int .i64 0, .int .i64 0, .int .i64 0, .nilS, .int .u64 0, .int .u64 0, .int .u64 0, .int .u64 0, .nilS, .nilS], [], [.junk, .junk, .junk, .junk, .junk, .junk, .junk, .lst 1 false [], .junk, .junk, .junk, .junk, .lst 1 false [], .lst 1 false []]⟩),
  (108, ⟨.slice 30, 1, 24, [.nilS], [], [.lst 2 false []]⟩),
  (5, ⟨.int .u8, 1, 1, [.int .u8 0], [], []⟩),
  (134, ⟨.struct [(0, 1), (1, 1), (2, 1)], 3, 40, [.nilS, .int .i64 0, .bool false], [], [.lst 1 false [], .junk, .junk]⟩),
  (94, ⟨.struct [(0, 2), (2, 2), (4, 2)], 6, 48, [.int .i64 0, .int .i64 0, .int .i64 0, .int .i64 0, .int .i64 0, .int .i64 0], [], []⟩),
  (142, ⟨.struct [(0, 1), (1, 1)], 2, 32, [.nilS, .int .i64 0], [], [.lst 1 false [], .junk]⟩),
  (109, ⟨.slice 4, 1, 24, [.nilS], [], [.lst 1 false []]⟩),
  (45, ⟨.slice 40, 1, 24, [.nilS], [], [.lst 1 false []]⟩),
  (166, ⟨.int .u64, 1, 8, [.int .u64 0], [], []⟩),
  (38, ⟨.slice 54, 1, 24, [.nilS], [], [.lst 17 false []]⟩),
  (52, ⟨.struct [(0, 1), (1, 1), (2, 1)], 3, 24, [.int .i64 0, .int .i64 0, .int .i64 0], [], []⟩),
  (96, ⟨.struct [(0, 6), (6, 1), (7, 4)], 11, 104, [.int .i64 0, .int .i64 0, .int .i64 0, .int .i64 0, .int .i64 0, .int .i64 0, .nilS, .int .u64 0, .int .u64 0, .int .u64 0, .int .u64 0], [], [.junk, .junk, .junk, .junk, .junk, .junk, .lst 1 false [], .junk, .junk, .junk, .junk]⟩),
  (171, ⟨.struct [(0, 1), (1, 1), (2, 1), (3, 1)], 4, 40, [.nilS, .int .i64 0, .bool false, .bool false], [], [.lst 1 false [], .junk, .junk, .junk]⟩)]

theorem tab_ok : TabOk Try.prog tab := tabB_spec (by kernel_rfl)

theorem orders_ok : Try.prog.follows .mixedOrders = true := by kernel_rfl

end Go.Proofs.Ytbolhhoklijnpaa
