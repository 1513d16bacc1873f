/- The table of the types of this seat, made by program. -/
import Derived.Test.YtfnkbbeeilpiiaaChecked
import Derived.Test.YtfnkbbeeilpiiaaVc
namespace Go.Proofs.Ytfnkbbeeilpiiaa
open Go.Vc

def tab : Tab := [
  (2, ⟨.int .i64, 1, 8, [.int .i64 0], [], []⟩),
  (51, ⟨.struct [(0, 1), (1, 1), (2, 1), (3, 1), (4, 1)], 5, 56, [.int .i64 0, .int .i64 0, .int .i64 0, .int .i64 0, .nilS], [], [.junk, .junk, .junk, .junk, .lst 2 false []]⟩),
  (24, ⟨.struct [(0, 1), (1, 1), (2, 1), (3, 1)], 4, 48, [.int .i64 0, .int .i64 0, .int .i64 0, .nilS], [], [.junk, .junk, .junk, .lst 2 false []]⟩),
  (22, ⟨.slice 43, 1, 24, [.nilS], [], [.lst 2 false []]⟩),
  (49, ⟨.slice 71, 1, 24, [.nilS], [], [.lst 2 false []]⟩),
  (3, ⟨.int .i64, 1, 8, [.int .i64 0], [], []⟩),
  (43, ⟨.struct [(0, 1), (1, 1)], 2, 16, [.int .i64 0, .int .i64 0], [true, true], []⟩),
  (60, ⟨.slice 2, 1, 24, [.nilS], [], [.lst 1 false []]⟩),
  (25, ⟨.int .i64, 1, 8, [.int .i64 0], [], []⟩),
  (71, ⟨.struct [(0, 1), (1, 1)], 2, 16, [.int .i64 0, .int .i64 0], [true, true], []⟩),
  (74, ⟨.struct [(0, 5), (5, 1)], 6, 64, [.int .i64 0, .int .i64 0, .int .i64 0, .int .i64 0, .nilS, .int .i64 0], [], [.junk, .junk, .junk, .junk, .lst 2 false [], .junk]⟩),
  (75, ⟨.slice 74, 1, 24, [.nilS], [], [.lst 6 false []]⟩),
  (87, ⟨.struct [(0, 1), (1, 1), (2, 1)], 3, 40, [.nilS, .int .i64 0, .int .i64 0], [], [.lst 1 false [], .junk, .junk]⟩),
  (4, ⟨.bool, 1, 1, [.bool false], [], []⟩),
  (93, ⟨.slice 60, 1, 24, [.nilS], [], [.lst 1 false []]⟩),
  (92, ⟨.struct [(0, 1), (1, 1)], 2, 32, [.nilS, .int .i64 0], [], [.lst 1 false [], .junk]⟩),
  (98, ⟨.int .u64, 1, 8, [.int .u64 0], [], []⟩)]

theorem tab_ok : TabOk Try.prog tab := tabB_spec (by kernel_rfl)

theorem orders_ok : Try.prog.follows .mixedOrders = true := by kernel_rfl

end Go.Proofs.Ytfnkbbeeilpiiaa
