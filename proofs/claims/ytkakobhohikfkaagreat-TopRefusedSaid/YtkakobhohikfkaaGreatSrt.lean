/- The library's sort and clone at this program: the kit's shelf of contracts, laid. Made by program. -/
import Derived.Test.YtkakobhohikfkaaGreatChecked
import Derived.Test.YtkakobhohikfkaaGreatVc
import Derived.Shelf.SortG.Plain
import Derived.Shelf.SortG.SortNone
namespace Go.Proofs.YtkakobhohikfkaaGreat
open Go.Vc Go.Dec
def C2t:Go.Shelf.Ren:=⟨fun|53=>268|59=>348|63=>323|64=>324|68=>357|70=>342|71=>343|72=>344|73=>345|74=>346|75=>347|76=>349|77=>350|78=>351|79=>317|88=>352|89=>353|90=>354|91=>355|92=>356|96=>358|n=>n,fun|0=>0|3=>3|4=>4|5=>5|9=>9|22=>25|23=>2|44=>230|51=>330|60=>479|61=>480|67=>487|69=>41|75=>488|79=>237|83=>493|84=>494|n=>n,fun n=>n⟩
theorem C1Z:SlLaysN.n53 Tryz.prog C2t:= {
 mixed:=by kernel_rfl
 f53:=⟨Tryz.f268.name,by decide,Tryz.func268.trans (congrArg some (by kernel_rfl))⟩
 f59:=⟨Tryz.f348.name,by decide,Tryz.func348.trans (congrArg some (by kernel_rfl))⟩
 f63:=⟨Tryz.f323.name,by decide,Tryz.func323.trans (congrArg some (by kernel_rfl))⟩
 f64:=Tryz.func324.trans (congrArg some (by kernel_rfl))
 f68:=⟨Tryz.f357.name,by decide,Tryz.func357.trans (congrArg some (by kernel_rfl))⟩
 f70:=⟨Tryz.f342.name,by decide,Tryz.func342.trans (congrArg some (by kernel_rfl))⟩
 f71:=⟨Tryz.f343.name,by decide,Tryz.func343.trans (congrArg some (by kernel_rfl))⟩
 f72:=⟨Tryz.f344.name,by decide,Tryz.func344.trans (congrArg some (by kernel_rfl))⟩
 f73:=⟨Tryz.f345.name,by decide,Tryz.func345.trans (congrArg some (by kernel_rfl))⟩
 f74:=⟨Tryz.f346.name,by decide,Tryz.func346.trans (congrArg some (by kernel_rfl))⟩
 f75:=⟨Tryz.f347.name,by decide,Tryz.func347.trans (congrArg some (by kernel_rfl))⟩
 f76:=⟨Tryz.f349.name,by decide,Tryz.func349.trans (congrArg some (by kernel_rfl))⟩
 f77:=⟨Tryz.f350.name,by decide,Tryz.func350.trans (congrArg some (by kernel_rfl))⟩
 f78:=Tryz.func351.trans (congrArg some (by kernel_rfl))
 f79:=Tryz.func317.trans (congrArg some (by kernel_rfl))
 f88:=⟨Tryz.f352.name,by decide,Tryz.func352.trans (congrArg some (by kernel_rfl))⟩
 f89:=Tryz.func353.trans (congrArg some (by kernel_rfl))
 f90:=Tryz.func354.trans (congrArg some (by kernel_rfl))
 f91:=⟨Tryz.f355.name,by decide,Tryz.func355.trans (congrArg some (by kernel_rfl))⟩
 f92:=⟨Tryz.f356.name,by decide,Tryz.func356.trans (congrArg some (by kernel_rfl))⟩
 f96:=⟨Tryz.f358.name,by decide,Tryz.func358.trans (congrArg some (by kernel_rfl))⟩
 t0:=Tryz.underlying0
 a0:=Tryz.isAgg0
 z0:=Tryz.sizeOf0
 v0:=Tryz.zeroValue0
 t3:=Tryz.underlying3
 a3:=Tryz.isAgg3
 z3:=Tryz.sizeOf3
 v3:=Tryz.zeroValue3
 t4:=Tryz.underlying4
 a4:=Tryz.isAgg4
 z4:=Tryz.sizeOf4
 v4:=Tryz.zeroValue4
 t5:=Tryz.underlying5
 a5:=Tryz.isAgg5
 z5:=Tryz.sizeOf5
 v5:=Tryz.zeroValue5
 t9:=Tryz.underlying9
 a9:=Tryz.isAgg9
 z9:=Tryz.sizeOf9
 v9:=Tryz.zeroValue9
 t22:=Tryz.underlying25
 a22:=Tryz.isAgg25
 z22:=Tryz.sizeOf25
 v22:=Tryz.zeroValue25
 t23:=Tryz.underlying2
 a23:=Tryz.isAgg2
 z23:=Tryz.sizeOf2
 v23:=Tryz.zeroValue2
 t44:=Tryz.underlying230
 a44:=Tryz.isAgg230
 z44:=Tryz.sizeOf230
 v44:=Tryz.zeroValue230
 t51:=Tryz.underlying330
 a51:=Tryz.isAgg330
 z51:=Tryz.sizeOf330
 v51:=Tryz.zeroValue330
 t60:=Tryz.underlying479
 a60:=Tryz.isAgg479
 z60:=Tryz.sizeOf479
 v60:=Tryz.zeroValue479
 t61:=Tryz.underlying480
 a61:=Tryz.isAgg480
 z61:=Tryz.sizeOf480
 v61:=Tryz.zeroValue480
 t67:=Tryz.underlying487
 a67:=Tryz.isAgg487
 z67:=Tryz.sizeOf487
 v67:=Tryz.zeroValue487
 t69:=Tryz.underlying41
 a69:=Tryz.isAgg41
 z69:=Tryz.sizeOf41
 v69:=Tryz.zeroValue41
 t75:=Tryz.underlying488
 a75:=Tryz.isAgg488
 z75:=Tryz.sizeOf488
 v75:=Tryz.zeroValue488
 t79:=Tryz.underlying237
 a79:=Tryz.isAgg237
 z79:=Tryz.sizeOf237
 v79:=Tryz.zeroValue237
 t83:=Tryz.underlying493
 a83:=Tryz.isAgg493
 z83:=Tryz.sizeOf493
 v83:=Tryz.zeroValue493
 t84:=Tryz.underlying494
 a84:=Tryz.isAgg494
 z84:=Tryz.sizeOf494
 v84:=Tryz.zeroValue494}
theorem C9a:SortsInts Tryz.prog 268:=
 D0F Tryz.call268 (fun p cap w=>AnyG.slices_Sort_int_none C1Z p cap w) (fun blk off cap zs w h1 h2 h3=>AnyG.slices_Sort_int C1Z blk off cap zs w h1 h2 h3)
end Go.Proofs.YtkakobhohikfkaaGreat
