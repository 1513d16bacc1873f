/- The library's sort and clone at this program: the kit's shelf of contracts, laid. Made by program. -/
import Derived.Test.YticmbokcamokpaaGreatChecked
import Derived.Test.YticmbokcamokpaaGreatVc
import Derived.Shelf.SortG.Plain
import Derived.Shelf.SortG.SortNone
namespace Go.Proofs.YticmbokcamokpaaGreat
open Go.Vc Go.Dec
def C4v:Go.Shelf.Ren:=⟨fun|53=>299|59=>384|63=>349|64=>350|68=>407|70=>378|71=>379|72=>380|73=>381|74=>382|75=>383|76=>385|77=>386|78=>387|79=>343|88=>402|89=>403|90=>404|91=>405|92=>406|96=>409|n=>n,fun|0=>0|3=>3|4=>4|5=>5|9=>9|22=>25|23=>2|44=>172|51=>262|60=>494|61=>495|67=>502|69=>46|75=>504|79=>177|83=>510|84=>511|n=>n,fun n=>n⟩
theorem C34:SlLaysN.n53 Tryz.prog C4v:= {
 mixed:=by kernel_rfl
 f53:=⟨Tryz.f299.name,by decide,Tryz.func299.trans (congrArg some (by kernel_rfl))⟩
 f59:=⟨Tryz.f384.name,by decide,Tryz.func384.trans (congrArg some (by kernel_rfl))⟩
 f63:=⟨Tryz.f349.name,by decide,Tryz.func349.trans (congrArg some (by kernel_rfl))⟩
 f64:=Tryz.func350.trans (congrArg some (by kernel_rfl))
 f68:=⟨Tryz.f407.name,by decide,Tryz.func407.trans (congrArg some (by kernel_rfl))⟩
 f70:=⟨Tryz.f378.name,by decide,Tryz.func378.trans (congrArg some (by kernel_rfl))⟩
 f71:=⟨Tryz.f379.name,by decide,Tryz.func379.trans (congrArg some (by kernel_rfl))⟩
 f72:=⟨Tryz.f380.name,by decide,Tryz.func380.trans (congrArg some (by kernel_rfl))⟩
 f73:=⟨Tryz.f381.name,by decide,Tryz.func381.trans (congrArg some (by kernel_rfl))⟩
 f74:=⟨Tryz.f382.name,by decide,Tryz.func382.trans (congrArg some (by kernel_rfl))⟩
 f75:=⟨Tryz.f383.name,by decide,Tryz.func383.trans (congrArg some (by kernel_rfl))⟩
 f76:=⟨Tryz.f385.name,by decide,Tryz.func385.trans (congrArg some (by kernel_rfl))⟩
 f77:=⟨Tryz.f386.name,by decide,Tryz.func386.trans (congrArg some (by kernel_rfl))⟩
 f78:=Tryz.func387.trans (congrArg some (by kernel_rfl))
 f79:=Tryz.func343.trans (congrArg some (by kernel_rfl))
 f88:=⟨Tryz.f402.name,by decide,Tryz.func402.trans (congrArg some (by kernel_rfl))⟩
 f89:=Tryz.func403.trans (congrArg some (by kernel_rfl))
 f90:=Tryz.func404.trans (congrArg some (by kernel_rfl))
 f91:=⟨Tryz.f405.name,by decide,Tryz.func405.trans (congrArg some (by kernel_rfl))⟩
 f92:=⟨Tryz.f406.name,by decide,Tryz.func406.trans (congrArg some (by kernel_rfl))⟩
 f96:=⟨Tryz.f409.name,by decide,Tryz.func409.trans (congrArg some (by kernel_rfl))⟩
 t0:=Tryz.underlying0
 a0:=Tryz.isAgg0
 z0:=Tryz.sizeOf0
 v0:=Tryz.zeroValue0
 t3:=Tryz.underlying3
 a3:=Tryz.isAgg3
 z3:=Tryz.sizeOf3
 v3:=Tryz.zeroValue3
 t4:=Tryz.underlying4
 a4:=Tryz.isAgg4
 z4:=Tryz.sizeOf4
 v4:=Tryz.zeroValue4
 t5:=Tryz.underlying5
 a5:=Tryz.isAgg5
 z5:=Tryz.sizeOf5
 v5:=Tryz.zeroValue5
 t9:=Tryz.underlying9
 a9:=Tryz.isAgg9
 z9:=Tryz.sizeOf9
 v9:=Tryz.zeroValue9
 t22:=Tryz.underlying25
 a22:=Tryz.isAgg25
 z22:=Tryz.sizeOf25
 v22:=Tryz.zeroValue25
 t23:=Tryz.underlying2
 a23:=Tryz.isAgg2
 z23:=Tryz.sizeOf2
 v23:=Tryz.zeroValue2
 t44:=Tryz.underlying172
 a44:=Tryz.isAgg172
 z44:=Tryz.sizeOf172
 v44:=Tryz.zeroValue172
 t51:=Tryz.underlying262
 a51:=Tryz.isAgg262
 z51:=Tryz.sizeOf262
 v51:=Tryz.zeroValue262
 t60:=Tryz.underlying494
 a60:=Tryz.isAgg494
 z60:=Tryz.sizeOf494
 v60:=Tryz.zeroValue494
 t61:=Tryz.underlying495
 a61:=Tryz.isAgg495
 z61:=Tryz.sizeOf495
 v61:=Tryz.zeroValue495
 t67:=Tryz.underlying502
 a67:=Tryz.isAgg502
 z67:=Tryz.sizeOf502
 v67:=Tryz.zeroValue502
 t69:=Tryz.underlying46
 a69:=Tryz.isAgg46
 z69:=Tryz.sizeOf46
 v69:=Tryz.zeroValue46
 t75:=Tryz.underlying504
 a75:=Tryz.isAgg504
 z75:=Tryz.sizeOf504
 v75:=Tryz.zeroValue504
 t79:=Tryz.underlying177
 a79:=Tryz.isAgg177
 z79:=Tryz.sizeOf177
 v79:=Tryz.zeroValue177
 t83:=Tryz.underlying510
 a83:=Tryz.isAgg510
 z83:=Tryz.sizeOf510
 v83:=Tryz.zeroValue510
 t84:=Tryz.underlying511
 a84:=Tryz.isAgg511
 z84:=Tryz.sizeOf511
 v84:=Tryz.zeroValue511}
theorem D1D:SortsInts Tryz.prog 299:=
 D3f Tryz.call299 (fun p cap w=>AnyG.slices_Sort_int_none C34 p cap w) (fun blk off cap zs w h1 h2 h3=>AnyG.slices_Sort_int C34 blk off cap zs w h1 h2 h3)
end Go.Proofs.YticmbokcamokpaaGreat
