/- The table of the types of this seat, made by program. -/
import Derived.Test.YtkdlfgjiinlkdaaChecked
import Derived.Test.YtkdlfgjiinlkdaaVc
namespace Go.Proofs.Ytkdlfgjiinlkdaa
open Go.Vc

def tab : Tab := [
  (26, ⟨.struct [(0, 1), (1, 1)], 2, 16, [.int .u64 0, .int .u64 0], [true, true], []⟩),
  (24, ⟨.int .u64, 1, 8, [.int .u64 0], [], []⟩),
  (2, ⟨.int .i64, 1, 8, [.int .i64 0], [], []⟩),
  (58, ⟨.struct [(0, 1), (1, 1)], 2, 16, [.int .i64 0, .int .i64 0], [true, true], []⟩),
  (44, ⟨.slice 2, 1, 24, [.nilS], [], [.lst 1 false []]⟩),
  (70, ⟨.struct [(0, 1), (1, 1)], 2, 16, [.int .i64 0, .int .i64 0], [], []⟩),
  (34, ⟨.slice 5, 1, 24, [.nilS], [], [.lst 1 false []]⟩),
  (3, ⟨.int .i64, 1, 8, [.int .i64 0], [], []⟩),
  (103, ⟨.array 4 24, 4, 32, [.int .u64 0, .int .u64 0, .int .u64 0, .int .u64 0], [], []⟩),
  (22, ⟨.slice 70, 1, 24, [.nilS], [], [.lst 2 false []]⟩),
  (28, ⟨.struct [(0, 2), (2, 2)], 4, 32, [.int .u64 0, .int .u64 0, .int .u64 0, .int .u64 0], [true, true, true, true], []⟩),
  (48, ⟨.struct [(0, 1), (1, 1), (2, 8), (10, 1), (11, 1), (12, 1), (13, 3), (16, 1)], 17, 168, [.int .i64 0, .int .i64 0, .int .i64 0, .int .i64 0, .int .i64 0, .int .i64 0, .int .i64 0, .int .i64 0, .int .i64 0, .int .i64 0, .int .i64 0, .int .i64 0, .nilS, .int .i64 0, .int .i64 0, .int .i64 0, .nilS], [], [.junk, .junk, .junk, .junk, .junk, .junk, .junk, .junk, .junk, .junk, .junk, .junk, .lst 1 false [], .junk, .junk, .junk, .lst 1 false []]⟩),
  (43, ⟨.struct [(0, 1), (1, 1), (2, 1), (3, 1), (4, 1), (5, 1), (6, 1), (7, 1)], 8, 64, [.int .i64 0, .int .i64 0, .int .i64 0, .int .i64 0, .int .i64 0, .int .i64 0, .int .i64 0, .int .i64 0], [], []⟩),
  (64, ⟨.struct [(0, 1), (1, 11), (12, 1), (13, 1)], 14, 160, [.int .i64 0, .int .i64 0, .int .i64 0, .int .i64 0, .int .i64 0, .int .i64 0, .int .i64 0, .nilS, .int .u64 0, .int .u64 0, .int .u64 0, .int .u64 0, .nilS, .nilS], [], [.junk, .junk, .junk, .junk, .junk, .junk, .junk, .lst 1 false [], .junk, .junk, .junk, .junk, .lst 1 false [], .lst 1 false []]⟩),
  (5, ⟨.int .u8, 1, 1, [.int .u8 0], [], []⟩),
  (96, ⟨.struct [(0, 1), (1, 1), (2, 1)], 3, 40, [.nilS, .int .i64 0, .bool false], [], [.lst 1 false [], .junk, .junk]⟩),
  (4, ⟨.bool, 1, 1, [.bool false], [], []⟩),
  (117, ⟨.int .u64, 1, 8, [.int .u64 0], [], []⟩),
  (60, ⟨.struct [(0, 2), (2, 2), (4, 2)], 6, 48, [.int .i64 0, .int .i64 0, .int .i64 0, .int .i64 0, .int .i64 0, .int .i64 0], [], []⟩),
  (39, ⟨.slice 34, 1, 24, [.nilS], [], [.lst 1 false []]⟩),
  (32, ⟨.slice 48, 1, 24, [.nilS], [], [.lst 17 false []]⟩),
  (46, ⟨.struct [(0, 1), (1, 1), (2, 1)], 3, 24, [.int .i64 0, .int .i64 0, .int .i64 0], [], []⟩),
  (62, ⟨.struct [(0, 6), (6, 1), (7, 4)], 11, 104, [.int .i64 0, .int .i64 0, .int .i64 0, .int .i64 0, .int .i64 0, .int .i64 0, .nilS, .int .u64 0, .int .u64 0, .int .u64 0, .int .u64 0], [], [.junk, .junk, .junk, .junk, .junk, .junk, .lst 1 false [], .junk, .junk, .junk, .junk]⟩),
  (124, ⟨.struct [(0, 1), (1, 1), (2, 1), (3, 1)], 4, 40, [.nilS, .int .i64 0, .bool false, .bool false], [], [.lst 1 false [], .junk, .junk, .junk]⟩),
  (35, ⟨.int .i64, 1, 8, [.int .i64 0], [], []⟩)]

theorem tab_ok : TabOk Try.prog tab := tabB_spec (by kernel_rfl)

theorem orders_ok : Try.prog.follows .mixedOrders = true := by kernel_rfl

end Go.Proofs.Ytkdlfgjiinlkdaa
