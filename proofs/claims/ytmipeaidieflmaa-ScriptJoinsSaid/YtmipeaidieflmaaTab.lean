/- The table of the types of this seat, made by program. -/
import Derived.Test.YtmipeaidieflmaaChecked
import Derived.Test.YtmipeaidieflmaaVc
namespace Go.Proofs.Ytmipeaidieflmaa
open Go.Vc

def tab : Tab := [
  (2, ⟨.int .i64, 1, 8, [.int .i64 0], [], []⟩),
  (25, ⟨.slice 5, 1, 24, [.nilS], [], [.lst 1 false []]⟩),
  (35, ⟨.slice 2, 1, 24, [.nilS], [], [.lst 1 false []]⟩),
  (68, ⟨.struct [(0, 1), (1, 1)], 2, 32, [.int .i64 0, .nilS], [], [.junk, .lst 3 false []]⟩),
  (3, ⟨.int .i64, 1, 8, [.int .i64 0], [], []⟩),
  (39, ⟨.struct [(0, 1), (1, 1), (2, 8), (10, 1), (11, 1), (12, 1), (13, 3), (16, 1)], 17, 168, [.int .i64 0, .int .i64 0, .int .i64 0, .int .i64 0, .int .i64 0, .int .i64 0, .int .i64 0, .int .i64 0, .int .i64 0, .int .i64 0, .int .i64 0, .int .i64 0, .nilS, .int .i64 0, .int .i64 0, .int .i64 0, .nilS], [], [.junk, .junk, .junk, .junk, .junk, .junk, .junk, .junk, .junk, .junk, .junk, .junk, .lst 1 false [], .junk, .junk, .junk, .lst 1 false []]⟩),
  (66, ⟨.slice 73, 1, 24, [.nilS], [], [.lst 3 false []]⟩),
  (73, ⟨.struct [(0, 1), (1, 1), (2, 1)], 3, 24, [.int .i64 0, .int .i64 0, .int .i64 0], [], []⟩),
  (60, ⟨.struct [(0, 1), (1, 11), (12, 1), (13, 1)], 14, 160, [.int .i64 0, .int .i64 0, .int .i64 0, .int .i64 0, .int .i64 0, .int .i64 0, .int .i64 0, .nilS, .int .u64 0, .int .u64 0, .int .u64 0, .int .u64 0, .nilS, .nilS], [], [.junk, .junk, .junk, .junk, .junk, .junk, .junk, .lst 1 false [], .junk, .junk, .junk, .junk, .lst 1 false [], .lst 1 false []]⟩),
  (104, ⟨.pointer 106, 1, 8, [.nilp], [], []⟩),
  (106, ⟨.struct [(0, 1), (1, 1), (2, 1), (3, 1)], 4, 40, [.nilS, .int .i64 0, .bool false, .bool false], [], [.lst 1 false [], .junk, .junk, .junk]⟩),
  (5, ⟨.int .u8, 1, 1, [.int .u8 0], [], []⟩),
  (52, ⟨.int .u64, 1, 8, [.int .u64 0], [], []⟩),
  (34, ⟨.struct [(0, 1), (1, 1), (2, 1), (3, 1), (4, 1), (5, 1), (6, 1), (7, 1)], 8, 64, [.int .i64 0, .int .i64 0, .int .i64 0, .int .i64 0, .int .i64 0, .int .i64 0, .int .i64 0, .int .i64 0], [], []⟩),
  (51, ⟨.struct [(0, 2), (2, 2), (4, 2)], 6, 48, [.int .i64 0, .int .i64 0, .int .i64 0, .int .i64 0, .int .i64 0, .int .i64 0], [], []⟩),
  (4, ⟨.bool, 1, 1, [.bool false], [], []⟩),
  (26, ⟨.int .i64, 1, 8, [.int .i64 0], [], []⟩),
  (49, ⟨.struct [(0, 1), (1, 1)], 2, 16, [.int .i64 0, .int .i64 0], [], []⟩),
  (91, ⟨.struct [(0, 1), (1, 1), (2, 1)], 3, 40, [.nilS, .int .i64 0, .bool false], [], [.lst 1 false [], .junk, .junk]⟩),
  (30, ⟨.slice 25, 1, 24, [.nilS], [], [.lst 1 false []]⟩),
  (58, ⟨.struct [(0, 6), (6, 1), (7, 4)], 11, 104, [.int .i64 0, .int .i64 0, .int .i64 0, .int .i64 0, .int .i64 0, .int .i64 0, .nilS, .int .u64 0, .int .u64 0, .int .u64 0, .int .u64 0], [], [.junk, .junk, .junk, .junk, .junk, .junk, .lst 1 false [], .junk, .junk, .junk, .junk]⟩),
  (22, ⟨.slice 39, 1, 24, [.nilS], [], [.lst 17 false []]⟩),
  (54, ⟨.struct [(0, 1), (1, 1)], 2, 16, [.int .u64 0, .int .u64 0], [], []⟩),
  (56, ⟨.struct [(0, 2), (2, 2)], 4, 32, [.int .u64 0, .int .u64 0, .int .u64 0, .int .u64 0], [], []⟩),
  (44, ⟨.slice 60, 1, 24, [.nilS], [], [.lst 14 false []]⟩),
  (165, ⟨.int .u64, 1, 8, [.int .u64 0], [], []⟩),
  (62, ⟨.slice 65, 1, 24, [.nilS], [], [.lst 2 false []]⟩),
  (37, ⟨.struct [(0, 1), (1, 1), (2, 1)], 3, 24, [.int .i64 0, .int .i64 0, .int .i64 0], [], []⟩),
  (65, ⟨.struct [(0, 1), (1, 1)], 2, 16, [.int .i64 0, .int .i64 0], [], []⟩),
  (118, ⟨.int .u64, 1, 8, [.int .u64 0], [], []⟩),
  (163, ⟨.int .u32, 1, 4, [.int .u32 0], [], []⟩)]

theorem tab_ok : TabOk Try.prog tab := tabB_spec (by kernel_rfl)

theorem orders_ok : Try.prog.follows .mixedOrders = true := by kernel_rfl

end Go.Proofs.Ytmipeaidieflmaa
