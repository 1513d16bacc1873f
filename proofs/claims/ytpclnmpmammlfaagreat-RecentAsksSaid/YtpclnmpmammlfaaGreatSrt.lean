/- The library's sort and clone at this program: the kit's shelf of contracts, laid. Made by program. -/
import Derived.Test.YtpclnmpmammlfaaGreatChecked
import Derived.Test.YtpclnmpmammlfaaGreatVc
import Derived.Shelf.SortG.Plain
import Derived.Shelf.SortG.SortNone

namespace Go.Proofs.YtpclnmpmammlfaaGreat
open Go.Vc Go.Dec

def sort_lays_ren : Go.Shelf.Ren := ⟨fun | 53 => 49 | 59 => 98 | 63 => 80 | 64 => 81 | 68 => 110 | 70 => 92 | 71 => 93 | 72 => 94 | 73 => 95 | 74 => 96 | 75 => 97 | 76 => 99 | 77 => 100 | 78 => 101 | 79 => 91 | 88 => 105 | 89 => 106 | 90 => 107 | 91 => 108 | 92 => 109 | 96 => 111 | n => n, fun | 0 => 0 | 3 => 3 | 4 => 4 | 5 => 5 | 9 => 9 | 22 => 33 | 23 => 2 | 44 => 118 | 51 => 104 | 60 => 113 | 61 => 114 | 67 => 121 | 69 => 34 | 75 => 124 | 79 => 128 | 83 => 130 | 84 => 131 | n => n, fun n => n⟩

theorem sort_lays : SlLaysN.n53 Tryz.prog sort_lays_ren := {
  mixed := by kernel_rfl
  f53 := ⟨Tryz.f49.name, by decide, Tryz.func49.trans (congrArg some (by kernel_rfl))⟩
  f59 := ⟨Tryz.f98.name, by decide, Tryz.func98.trans (congrArg some (by kernel_rfl))⟩
  f63 := ⟨Tryz.f80.name, by decide, Tryz.func80.trans (congrArg some (by kernel_rfl))⟩
  f64 := Tryz.func81.trans (congrArg some (by kernel_rfl))
  f68 := ⟨Tryz.f110.name, by decide, Tryz.func110.trans (congrArg some (by kernel_rfl))⟩
  f70 := ⟨Tryz.f92.name, by decide, Tryz.func92.trans (congrArg some (by kernel_rfl))⟩
  f71 := ⟨Tryz.f93.name, by decide, Tryz.func93.trans (congrArg some (by kernel_rfl))⟩
  f72 := ⟨Tryz.f94.name, by decide, Tryz.func94.trans (congrArg some (by kernel_rfl))⟩
  f73 := ⟨Tryz.f95.name, by decide, Tryz.func95.trans (congrArg some (by kernel_rfl))⟩
  f74 := ⟨Tryz.f96.name, by decide, Tryz.func96.trans (congrArg some (by kernel_rfl))⟩
  f75 := ⟨Tryz.f97.name, by decide, Tryz.func97.trans (congrArg some (by kernel_rfl))⟩
  f76 := ⟨Tryz.f99.name, by decide, Tryz.func99.trans (congrArg some (by kernel_rfl))⟩
  f77 := ⟨Tryz.f100.name, by decide, Tryz.func100.trans (congrArg some (by kernel_rfl))⟩
  f78 := Tryz.func101.trans (congrArg some (by kernel_rfl))
  f79 := Tryz.func91.trans (congrArg some (by kernel_rfl))
  f88 := ⟨Tryz.f105.name, by decide, Tryz.func105.trans (congrArg some (by kernel_rfl))⟩
  f89 := Tryz.func106.trans (congrArg some (by kernel_rfl))
  f90 := Tryz.func107.trans (congrArg some (by kernel_rfl))
  f91 := ⟨Tryz.f108.name, by decide, Tryz.func108.trans (congrArg some (by kernel_rfl))⟩
  f92 := ⟨Tryz.f109.name, by decide, Tryz.func109.trans (congrArg some (by kernel_rfl))⟩
  f96 := ⟨Tryz.f111.name, by decide, Tryz.func111.trans (congrArg some (by kernel_rfl))⟩
  t0 := Tryz.underlying0
  a0 := Tryz.isAgg0
  z0 := Tryz.sizeOf0
  v0 := Tryz.zeroValue0
  t3 := Tryz.underlying3
  a3 := Tryz.isAgg3
  z3 := Tryz.sizeOf3
  v3 := Tryz.zeroValue3
  t4 := Tryz.underlying4
  a4 := Tryz.isAgg4
  z4 := Tryz.sizeOf4
  v4 := Tryz.zeroValue4
  t5 := Tryz.underlying5
  a5 := Tryz.isAgg5
  z5 := Tryz.sizeOf5
  v5 := Tryz.zeroValue5
  t9 := Tryz.underlying9
  a9 := Tryz.isAgg9
  z9 := Tryz.sizeOf9
  v9 := Tryz.zeroValue9
  t22 := Tryz.underlying33
  a22 := Tryz.isAgg33
  z22 := Tryz.sizeOf33
  v22 := Tryz.zeroValue33
  t23 := Tryz.underlying2
  a23 := Tryz.isAgg2
  z23 := Tryz.sizeOf2
  v23 := Tryz.zeroValue2
  t44 := Tryz.underlying118
  a44 := Tryz.isAgg118
  z44 := Tryz.sizeOf118
  v44 := Tryz.zeroValue118
  t51 := Tryz.underlying104
  a51 := Tryz.isAgg104
  z51 := Tryz.sizeOf104
  v51 := Tryz.zeroValue104
  t60 := Tryz.underlying113
  a60 := Tryz.isAgg113
  z60 := Tryz.sizeOf113
  v60 := Tryz.zeroValue113
  t61 := Tryz.underlying114
  a61 := Tryz.isAgg114
  z61 := Tryz.sizeOf114
  v61 := Tryz.zeroValue114
  t67 := Tryz.underlying121
  a67 := Tryz.isAgg121
  z67 := Tryz.sizeOf121
  v67 := Tryz.zeroValue121
  t69 := Tryz.underlying34
  a69 := Tryz.isAgg34
  z69 := Tryz.sizeOf34
  v69 := Tryz.zeroValue34
  t75 := Tryz.underlying124
  a75 := Tryz.isAgg124
  z75 := Tryz.sizeOf124
  v75 := Tryz.zeroValue124
  t79 := Tryz.underlying128
  a79 := Tryz.isAgg128
  z79 := Tryz.sizeOf128
  v79 := Tryz.zeroValue128
  t83 := Tryz.underlying130
  a83 := Tryz.isAgg130
  z83 := Tryz.sizeOf130
  v83 := Tryz.zeroValue130
  t84 := Tryz.underlying131
  a84 := Tryz.isAgg131
  z84 := Tryz.sizeOf131
  v84 := Tryz.zeroValue131 }


theorem sorts_int : SortsInts Tryz.prog 49 :=
  sorts_of Tryz.call49 (fun p cap w => AnyG.slices_Sort_int_none sort_lays p cap w) (fun blk off cap zs w h1 h2 h3 => AnyG.slices_Sort_int sort_lays blk off cap zs w h1 h2 h3)


end Go.Proofs.YtpclnmpmammlfaaGreat
