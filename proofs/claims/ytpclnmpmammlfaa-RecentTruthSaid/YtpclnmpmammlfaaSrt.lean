/- The library's sort and clone at this program: the kit's shelf of contracts, laid. Made by program. -/
import Derived.Test.YtpclnmpmammlfaaChecked
import Derived.Test.YtpclnmpmammlfaaVc
import Derived.Test.YtpclnmpmammlfaaWalkC
import Derived.Shelf.SlicesE.Clone
import Derived.Shelf.SortG.Plain
import Derived.Shelf.SortG.SortNone

namespace Go.Proofs.Ytpclnmpmammlfaa
open Go.Vc Go.Dec

def sort_lays_ren : Go.Shelf.Ren := ⟨fun | 53 => 51 | 59 => 114 | 63 => 83 | 64 => 84 | 68 => 137 | 70 => 108 | 71 => 109 | 72 => 110 | 73 => 111 | 74 => 112 | 75 => 113 | 76 => 115 | 77 => 116 | 78 => 117 | 79 => 118 | 88 => 132 | 89 => 133 | 90 => 134 | 91 => 135 | 92 => 136 | 96 => 138 | n => n, fun | 0 => 0 | 3 => 3 | 4 => 4 | 5 => 5 | 9 => 9 | 22 => 22 | 23 => 2 | 44 => 144 | 51 => 120 | 60 => 139 | 61 => 140 | 67 => 147 | 69 => 71 | 75 => 154 | 79 => 158 | 83 => 160 | 84 => 161 | n => n, fun n => n⟩

theorem sort_lays : SlLaysN.n53 Try.prog sort_lays_ren := {
  mixed := by kernel_rfl
  f53 := ⟨Try.f51.name, by decide, Try.func51.trans (congrArg some (by kernel_rfl))⟩
  f59 := ⟨Try.f114.name, by decide, Try.func114.trans (congrArg some (by kernel_rfl))⟩
  f63 := ⟨Try.f83.name, by decide, Try.func83.trans (congrArg some (by kernel_rfl))⟩
  f64 := Try.func84.trans (congrArg some (by kernel_rfl))
  f68 := ⟨Try.f137.name, by decide, Try.func137.trans (congrArg some (by kernel_rfl))⟩
  f70 := ⟨Try.f108.name, by decide, Try.func108.trans (congrArg some (by kernel_rfl))⟩
  f71 := ⟨Try.f109.name, by decide, Try.func109.trans (congrArg some (by kernel_rfl))⟩
  f72 := ⟨Try.f110.name, by decide, Try.func110.trans (congrArg some (by kernel_rfl))⟩
  f73 := ⟨Try.f111.name, by decide, Try.func111.trans (congrArg some (by kernel_rfl))⟩
  f74 := ⟨Try.f112.name, by decide, Try.func112.trans (congrArg some (by kernel_rfl))⟩
  f75 := ⟨Try.f113.name, by decide, Try.func113.trans (congrArg some (by kernel_rfl))⟩
  f76 := ⟨Try.f115.name, by decide, Try.func115.trans (congrArg some (by kernel_rfl))⟩
  f77 := ⟨Try.f116.name, by decide, Try.func116.trans (congrArg some (by kernel_rfl))⟩
  f78 := Try.func117.trans (congrArg some (by kernel_rfl))
  f79 := Try.func118.trans (congrArg some (by kernel_rfl))
  f88 := ⟨Try.f132.name, by decide, Try.func132.trans (congrArg some (by kernel_rfl))⟩
  f89 := Try.func133.trans (congrArg some (by kernel_rfl))
  f90 := Try.func134.trans (congrArg some (by kernel_rfl))
  f91 := ⟨Try.f135.name, by decide, Try.func135.trans (congrArg some (by kernel_rfl))⟩
  f92 := ⟨Try.f136.name, by decide, Try.func136.trans (congrArg some (by kernel_rfl))⟩
  f96 := ⟨Try.f138.name, by decide, Try.func138.trans (congrArg some (by kernel_rfl))⟩
  t0 := Try.underlying0
  a0 := Try.isAgg0
  z0 := Try.sizeOf0
  v0 := Try.zeroValue0
  t3 := Try.underlying3
  a3 := Try.isAgg3
  z3 := Try.sizeOf3
  v3 := Try.zeroValue3
  t4 := Try.underlying4
  a4 := Try.isAgg4
  z4 := Try.sizeOf4
  v4 := Try.zeroValue4
  t5 := Try.underlying5
  a5 := Try.isAgg5
  z5 := Try.sizeOf5
  v5 := Try.zeroValue5
  t9 := Try.underlying9
  a9 := Try.isAgg9
  z9 := Try.sizeOf9
  v9 := Try.zeroValue9
  t22 := Try.underlying22
  a22 := Try.isAgg22
  z22 := Try.sizeOf22
  v22 := Try.zeroValue22
  t23 := Try.underlying2
  a23 := Try.isAgg2
  z23 := Try.sizeOf2
  v23 := Try.zeroValue2
  t44 := Try.underlying144
  a44 := Try.isAgg144
  z44 := Try.sizeOf144
  v44 := Try.zeroValue144
  t51 := Try.underlying120
  a51 := Try.isAgg120
  z51 := Try.sizeOf120
  v51 := Try.zeroValue120
  t60 := Try.underlying139
  a60 := Try.isAgg139
  z60 := Try.sizeOf139
  v60 := Try.zeroValue139
  t61 := Try.underlying140
  a61 := Try.isAgg140
  z61 := Try.sizeOf140
  v61 := Try.zeroValue140
  t67 := Try.underlying147
  a67 := Try.isAgg147
  z67 := Try.sizeOf147
  v67 := Try.zeroValue147
  t69 := Try.underlying71
  a69 := Try.isAgg71
  z69 := Try.sizeOf71
  v69 := Try.zeroValue71
  t75 := Try.underlying154
  a75 := Try.isAgg154
  z75 := Try.sizeOf154
  v75 := Try.zeroValue154
  t79 := Try.underlying158
  a79 := Try.isAgg158
  z79 := Try.sizeOf158
  v79 := Try.zeroValue158
  t83 := Try.underlying160
  a83 := Try.isAgg160
  z83 := Try.sizeOf160
  v83 := Try.zeroValue160
  t84 := Try.underlying161
  a84 := Try.isAgg161
  z84 := Try.sizeOf161
  v84 := Try.zeroValue161 }


theorem sorts_int : SortsInts Try.prog 51 :=
  sorts_of Try.call51 (fun p cap w => AnyG.slices_Sort_int_none sort_lays p cap w) (fun blk off cap zs w h1 h2 h3 => AnyG.slices_Sort_int sort_lays blk off cap zs w h1 h2 h3)

def clone_lays_ren : Go.Shelf.Ren := ⟨fun | 41 => 50 | n => n, fun | 4 => 4 | 22 => 22 | 23 => 2 | n => n, fun n => n⟩

theorem clone_lays : SlLaysE0.n41 Try.prog clone_lays_ren := {
  mixed := by kernel_rfl
  f41 := ⟨Try.f50.name, by decide, Try.func50.trans (congrArg some (by kernel_rfl))⟩
  t4 := Try.underlying4
  a4 := Try.isAgg4
  z4 := Try.sizeOf4
  v4 := Try.zeroValue4
  t22 := Try.underlying22
  a22 := Try.isAgg22
  z22 := Try.sizeOf22
  v22 := Try.zeroValue22 }


theorem clone_int (full : Bool) (zs : List Int) (hz : zs.length * 8 ≤ 140737488355328) : Fresh Try.prog 50 [.lst 1 full (encZ zs)] 2 1 (encZ zs) :=
  fresh_clone Try.call50 (fun n c w => AnyE.slices_Clone_nil clone_lays n c w)
    (fun b off n c news w h1 h2 h3 h4 h5 => AnyE.slices_Clone clone_lays (Try.t2) (.int .i64 0) 1 8 (by kernel_rfl) (by kernel_rfl) (by kernel_rfl) (by kernel_rfl) rfl (by decide) Try.sizeOf2 b off n c news w h1 h2 h3 h4 h5)
    (fun a c w => clone_empty clone_lays (Try.t2) (.int .i64 0) 1 8 (by kernel_rfl) (by kernel_rfl) (by kernel_rfl) (by kernel_rfl) rfl (by decide) Try.sizeOf2 a c w) full zs hz

end Go.Proofs.Ytpclnmpmammlfaa
