/- The library's sort and clone at this program: the kit's shelf of contracts, laid. Made by program. -/
import Derived.Test.YtmipeaidieflmaaChecked
import Derived.Test.YtmipeaidieflmaaVc
import Derived.Test.YtmipeaidieflmaaWalkC
import Derived.Shelf.SlicesE.Clone
import Derived.Shelf.SortG.Plain
import Derived.Shelf.SortG.SortNone

namespace Go.Proofs.Ytmipeaidieflmaa
open Go.Vc Go.Dec

def sort_lays_ren : Go.Shelf.Ren := ⟨fun | 53 => 63 | 59 => 91 | 63 => 77 | 64 => 78 | 68 => 101 | 70 => 85 | 71 => 86 | 72 => 87 | 73 => 88 | 74 => 89 | 75 => 90 | 76 => 92 | 77 => 93 | 78 => 94 | 79 => 95 | 88 => 96 | 89 => 97 | 90 => 98 | 91 => 99 | 92 => 100 | 96 => 102 | n => n, fun | 0 => 0 | 3 => 3 | 4 => 4 | 5 => 5 | 9 => 9 | 22 => 35 | 23 => 2 | 44 => 160 | 51 => 118 | 60 => 154 | 61 => 155 | 67 => 163 | 69 => 52 | 75 => 165 | 79 => 129 | 83 => 171 | 84 => 172 | n => n, fun n => n⟩

theorem sort_lays : SlLaysN.n53 Try.prog sort_lays_ren := {
  mixed := by kernel_rfl
  f53 := ⟨Try.f63.name, by decide, Try.func63.trans (congrArg some (by kernel_rfl))⟩
  f59 := ⟨Try.f91.name, by decide, Try.func91.trans (congrArg some (by kernel_rfl))⟩
  f63 := ⟨Try.f77.name, by decide, Try.func77.trans (congrArg some (by kernel_rfl))⟩
  f64 := Try.func78.trans (congrArg some (by kernel_rfl))
  f68 := ⟨Try.f101.name, by decide, Try.func101.trans (congrArg some (by kernel_rfl))⟩
  f70 := ⟨Try.f85.name, by decide, Try.func85.trans (congrArg some (by kernel_rfl))⟩
  f71 := ⟨Try.f86.name, by decide, Try.func86.trans (congrArg some (by kernel_rfl))⟩
  f72 := ⟨Try.f87.name, by decide, Try.func87.trans (congrArg some (by kernel_rfl))⟩
  f73 := ⟨Try.f88.name, by decide, Try.func88.trans (congrArg some (by kernel_rfl))⟩
  f74 := ⟨Try.f89.name, by decide, Try.func89.trans (congrArg some (by kernel_rfl))⟩
  f75 := ⟨Try.f90.name, by decide, Try.func90.trans (congrArg some (by kernel_rfl))⟩
  f76 := ⟨Try.f92.name, by decide, Try.func92.trans (congrArg some (by kernel_rfl))⟩
  f77 := ⟨Try.f93.name, by decide, Try.func93.trans (congrArg some (by kernel_rfl))⟩
  f78 := Try.func94.trans (congrArg some (by kernel_rfl))
  f79 := Try.func95.trans (congrArg some (by kernel_rfl))
  f88 := ⟨Try.f96.name, by decide, Try.func96.trans (congrArg some (by kernel_rfl))⟩
  f89 := Try.func97.trans (congrArg some (by kernel_rfl))
  f90 := Try.func98.trans (congrArg some (by kernel_rfl))
  f91 := ⟨Try.f99.name, by decide, Try.func99.trans (congrArg some (by kernel_rfl))⟩
  f92 := ⟨Try.f100.name, by decide, Try.func100.trans (congrArg some (by kernel_rfl))⟩
  f96 := ⟨Try.f102.name, by decide, Try.func102.trans (congrArg some (by kernel_rfl))⟩
  t0 := Try.underlying0
  a0 := Try.isAgg0
  z0 := Try.sizeOf0
  v0 := Try.zeroValue0
  t3 := Try.underlying3
  a3 := Try.isAgg3
  z3 := Try.sizeOf3
  v3 := Try.zeroValue3
  t4 := Try.underlying4
  a4 := Try.isAgg4
  z4 := Try.sizeOf4
  v4 := Try.zeroValue4
  t5 := Try.underlying5
  a5 := Try.isAgg5
  z5 := Try.sizeOf5
  v5 := Try.zeroValue5
  t9 := Try.underlying9
  a9 := Try.isAgg9
  z9 := Try.sizeOf9
  v9 := Try.zeroValue9
  t22 := Try.underlying35
  a22 := Try.isAgg35
  z22 := Try.sizeOf35
  v22 := Try.zeroValue35
  t23 := Try.underlying2
  a23 := Try.isAgg2
  z23 := Try.sizeOf2
  v23 := Try.zeroValue2
  t44 := Try.underlying160
  a44 := Try.isAgg160
  z44 := Try.sizeOf160
  v44 := Try.zeroValue160
  t51 := Try.underlying118
  a51 := Try.isAgg118
  z51 := Try.sizeOf118
  v51 := Try.zeroValue118
  t60 := Try.underlying154
  a60 := Try.isAgg154
  z60 := Try.sizeOf154
  v60 := Try.zeroValue154
  t61 := Try.underlying155
  a61 := Try.isAgg155
  z61 := Try.sizeOf155
  v61 := Try.zeroValue155
  t67 := Try.underlying163
  a67 := Try.isAgg163
  z67 := Try.sizeOf163
  v67 := Try.zeroValue163
  t69 := Try.underlying52
  a69 := Try.isAgg52
  z69 := Try.sizeOf52
  v69 := Try.zeroValue52
  t75 := Try.underlying165
  a75 := Try.isAgg165
  z75 := Try.sizeOf165
  v75 := Try.zeroValue165
  t79 := Try.underlying129
  a79 := Try.isAgg129
  z79 := Try.sizeOf129
  v79 := Try.zeroValue129
  t83 := Try.underlying171
  a83 := Try.isAgg171
  z83 := Try.sizeOf171
  v83 := Try.zeroValue171
  t84 := Try.underlying172
  a84 := Try.isAgg172
  z84 := Try.sizeOf172
  v84 := Try.zeroValue172 }


theorem sorts_int : SortsInts Try.prog 63 :=
  sorts_of Try.call63 (fun p cap w => AnyG.slices_Sort_int_none sort_lays p cap w) (fun blk off cap zs w h1 h2 h3 => AnyG.slices_Sort_int sort_lays blk off cap zs w h1 h2 h3)

def clone_lays_ren : Go.Shelf.Ren := ⟨fun | 41 => 62 | n => n, fun | 4 => 4 | 22 => 35 | 23 => 2 | n => n, fun n => n⟩

theorem clone_lays : SlLaysE0.n41 Try.prog clone_lays_ren := {
  mixed := by kernel_rfl
  f41 := ⟨Try.f62.name, by decide, Try.func62.trans (congrArg some (by kernel_rfl))⟩
  t4 := Try.underlying4
  a4 := Try.isAgg4
  z4 := Try.sizeOf4
  v4 := Try.zeroValue4
  t22 := Try.underlying35
  a22 := Try.isAgg35
  z22 := Try.sizeOf35
  v22 := Try.zeroValue35 }


theorem clone_int (full : Bool) (zs : List Int) (hz : zs.length * 8 ≤ 140737488355328) : Fresh Try.prog 62 [.lst 1 full (encZ zs)] 2 1 (encZ zs) :=
  fresh_clone Try.call62 (fun n c w => AnyE.slices_Clone_nil clone_lays n c w)
    (fun b off n c news w h1 h2 h3 h4 h5 => AnyE.slices_Clone clone_lays (Try.t2) (.int .i64 0) 1 8 (by kernel_rfl) (by kernel_rfl) (by kernel_rfl) (by kernel_rfl) rfl (by decide) Try.sizeOf2 b off n c news w h1 h2 h3 h4 h5)
    (fun a c w => clone_empty clone_lays (Try.t2) (.int .i64 0) 1 8 (by kernel_rfl) (by kernel_rfl) (by kernel_rfl) (by kernel_rfl) rfl (by decide) Try.sizeOf2 a c w) full zs hz

end Go.Proofs.Ytmipeaidieflmaa
