/- The table of the types of this seat, made by program. -/
import Derived.Test.YtpclnmpmammlfaaChecked
import Derived.Test.YtpclnmpmammlfaaVc
namespace Go.Proofs.Ytpclnmpmammlfaa
open Go.Vc

def tab : Tab := [
  (2, ⟨.int .i64, 1, 8, [.int .i64 0], [], []⟩),
  (26, ⟨.struct [(0, 1), (1, 1)], 2, 32, [.int .i64 0, .nilS], [], [.junk, .lst 3 false []]⟩),
  (73, ⟨.struct [(0, 1), (1, 1)], 2, 16, [.int .u64 0, .int .u64 0], [true, true], []⟩),
  (71, ⟨.int .u64, 1, 8, [.int .u64 0], [], []⟩),
  (24, ⟨.slice 39, 1, 24, [.nilS], [], [.lst 3 false []]⟩),
  (39, ⟨.struct [(0, 1), (1, 1), (2, 1)], 3, 24, [.int .i64 0, .int .i64 0, .int .i64 0], [true, true, true], []⟩),
  (45, ⟨.slice 48, 1, 24, [.nilS], [], [.lst 2 false []]⟩),
  (3, ⟨.int .i64, 1, 8, [.int .i64 0], [], []⟩),
  (48, ⟨.struct [(0, 1), (1, 1)], 2, 16, [.int .i64 0, .int .i64 0], [], []⟩),
  (65, ⟨.struct [(0, 1), (1, 1), (2, 1), (3, 1)], 4, 48, [.int .i64 0, .int .i64 0, .int .i64 0, .nilS], [], [.junk, .junk, .junk, .lst 2 false []]⟩),
  (55, ⟨.struct [(0, 2), (2, 2), (4, 2)], 6, 48, [.int .i64 0, .int .i64 0, .int .i64 0, .int .i64 0, .int .i64 0, .int .i64 0], [true, true, true, true, true, true], []⟩),
  (106, ⟨.array 4 71, 4, 32, [.int .u64 0, .int .u64 0, .int .u64 0, .int .u64 0], [], []⟩),
  (53, ⟨.struct [(0, 1), (1, 1)], 2, 16, [.int .i64 0, .int .i64 0], [true, true], []⟩),
  (22, ⟨.slice 2, 1, 24, [.nilS], [], [.lst 1 false []]⟩),
  (27, ⟨.int .i64, 1, 8, [.int .i64 0], [], []⟩),
  (77, ⟨.struct [(0, 6), (6, 1), (7, 4)], 11, 104, [.int .i64 0, .int .i64 0, .int .i64 0, .int .i64 0, .int .i64 0, .int .i64 0, .nilS, .int .u64 0, .int .u64 0, .int .u64 0, .int .u64 0], [], [.junk, .junk, .junk, .junk, .junk, .junk, .lst 1 false [], .junk, .junk, .junk, .junk]⟩),
  (81, ⟨.struct [(0, 1), (1, 1), (2, 1)], 3, 24, [.int .i64 0, .int .i64 0, .int .i64 0], [], []⟩),
  (154, ⟨.int .u64, 1, 8, [.int .u64 0], [], []⟩),
  (4, ⟨.bool, 1, 1, [.bool false], [], []⟩),
  (120, ⟨.int .u64, 1, 8, [.int .u64 0], [], []⟩),
  (147, ⟨.int .u32, 1, 4, [.int .u32 0], [], []⟩)]

theorem tab_ok : TabOk Try.prog tab := tabB_spec (by kernel_rfl)

theorem orders_ok : Try.prog.follows .mixedOrders = true := by kernel_rfl

end Go.Proofs.Ytpclnmpmammlfaa
