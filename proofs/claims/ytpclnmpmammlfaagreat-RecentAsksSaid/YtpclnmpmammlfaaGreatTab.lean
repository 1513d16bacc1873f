/- The table of the types of this seat, made by program. -/
import Derived.Test.YtpclnmpmammlfaaGreatChecked
import Derived.Test.YtpclnmpmammlfaaGreatVc
namespace Go.Proofs.YtpclnmpmammlfaaGreat
open Go.Vc

def tab : Tab := [
  (36, ⟨.struct [(0, 1), (1, 1)], 2, 16, [.int .u64 0, .int .u64 0], [true, true], []⟩),
  (34, ⟨.int .u64, 1, 8, [.int .u64 0], [], []⟩),
  (2, ⟨.int .i64, 1, 8, [.int .i64 0], [], []⟩),
  (22, ⟨.slice 67, 1, 24, [.nilS], [], [.lst 2 false []]⟩),
  (67, ⟨.struct [(0, 1), (1, 1)], 2, 16, [.int .i64 0, .int .i64 0], [], []⟩),
  (24, ⟨.struct [(0, 1), (1, 1), (2, 1), (3, 1)], 4, 48, [.int .i64 0, .int .i64 0, .int .i64 0, .nilS], [], [.junk, .junk, .junk, .lst 2 false []]⟩),
  (3, ⟨.int .i64, 1, 8, [.int .i64 0], [], []⟩),
  (30, ⟨.struct [(0, 1), (1, 1)], 2, 16, [.int .i64 0, .int .i64 0], [], []⟩),
  (40, ⟨.struct [(0, 6), (6, 1), (7, 4)], 11, 104, [.int .i64 0, .int .i64 0, .int .i64 0, .int .i64 0, .int .i64 0, .int .i64 0, .nilS, .int .u64 0, .int .u64 0, .int .u64 0, .int .u64 0], [], [.junk, .junk, .junk, .junk, .junk, .junk, .lst 1 false [], .junk, .junk, .junk, .junk]⟩),
  (74, ⟨.array 4 34, 4, 32, [.int .u64 0, .int .u64 0, .int .u64 0, .int .u64 0], [], []⟩),
  (33, ⟨.slice 2, 1, 24, [.nilS], [], [.lst 1 false []]⟩),
  (26, ⟨.struct [(0, 1), (1, 1), (2, 1)], 3, 24, [.int .i64 0, .int .i64 0, .int .i64 0], [], []⟩),
  (32, ⟨.struct [(0, 2), (2, 2), (4, 2)], 6, 48, [.int .i64 0, .int .i64 0, .int .i64 0, .int .i64 0, .int .i64 0, .int .i64 0], [true, true, true, true, true, true], []⟩),
  (87, ⟨.slice 36, 1, 24, [.nilS], [], [.lst 2 false []]⟩),
  (124, ⟨.int .u64, 1, 8, [.int .u64 0], [], []⟩),
  (4, ⟨.bool, 1, 1, [.bool false], [], []⟩),
  (104, ⟨.int .u64, 1, 8, [.int .u64 0], [], []⟩),
  (88, ⟨.slice 4, 1, 24, [.nilS], [], [.lst 1 false []]⟩),
  (41, ⟨.int .i64, 1, 8, [.int .i64 0], [], []⟩),
  (38, ⟨.struct [(0, 2), (2, 2)], 4, 32, [.int .u64 0, .int .u64 0, .int .u64 0, .int .u64 0], [true, true, true, true], []⟩),
  (121, ⟨.int .u32, 1, 4, [.int .u32 0], [], []⟩)]

theorem tab_ok : TabOk Tryz.prog tab := tabB_spec (by kernel_rfl)

theorem orders_ok : Tryz.prog.follows .mixedOrders = true := by kernel_rfl

end Go.Proofs.YtpclnmpmammlfaaGreat
