/- The library's sort and clone at this program: the kit's shelf of contracts, laid. Made by program. -/
import Derived.Test.YtoljnakoodalpaaGreatChecked
import Derived.Test.YtoljnakoodalpaaGreatVc
import Derived.Shelf.SortG.Plain
import Derived.Shelf.SortG.SortNone
namespace Go.Proofs.YtoljnakoodalpaaGreat
open Go.Vc Go.Dec
def C1J:Go.Shelf.Ren:=⟨fun|53=>316|59=>383|63=>364|64=>365|68=>392|70=>377|71=>378|72=>379|73=>380|74=>381|75=>382|76=>384|77=>385|78=>386|79=>350|88=>387|89=>388|90=>389|91=>390|92=>391|96=>393|n=>n,fun|0=>0|3=>3|4=>4|5=>5|9=>9|22=>40|23=>2|44=>362|51=>276|60=>357|61=>358|67=>365|69=>84|75=>366|79=>226|83=>371|84=>372|n=>n,fun n=>n⟩
theorem C1b:SlLaysN.n53 Tryz.prog C1J:= {
 mixed:=by kernel_rfl
 f53:=⟨Tryz.f316.name,by decide,Tryz.func316.trans (congrArg some (by kernel_rfl))⟩
 f59:=⟨Tryz.f383.name,by decide,Tryz.func383.trans (congrArg some (by kernel_rfl))⟩
 f63:=⟨Tryz.f364.name,by decide,Tryz.func364.trans (congrArg some (by kernel_rfl))⟩
 f64:=Tryz.func365.trans (congrArg some (by kernel_rfl))
 f68:=⟨Tryz.f392.name,by decide,Tryz.func392.trans (congrArg some (by kernel_rfl))⟩
 f70:=⟨Tryz.f377.name,by decide,Tryz.func377.trans (congrArg some (by kernel_rfl))⟩
 f71:=⟨Tryz.f378.name,by decide,Tryz.func378.trans (congrArg some (by kernel_rfl))⟩
 f72:=⟨Tryz.f379.name,by decide,Tryz.func379.trans (congrArg some (by kernel_rfl))⟩
 f73:=⟨Tryz.f380.name,by decide,Tryz.func380.trans (congrArg some (by kernel_rfl))⟩
 f74:=⟨Tryz.f381.name,by decide,Tryz.func381.trans (congrArg some (by kernel_rfl))⟩
 f75:=⟨Tryz.f382.name,by decide,Tryz.func382.trans (congrArg some (by kernel_rfl))⟩
 f76:=⟨Tryz.f384.name,by decide,Tryz.func384.trans (congrArg some (by kernel_rfl))⟩
 f77:=⟨Tryz.f385.name,by decide,Tryz.func385.trans (congrArg some (by kernel_rfl))⟩
 f78:=Tryz.func386.trans (congrArg some (by kernel_rfl))
 f79:=Tryz.func350.trans (congrArg some (by kernel_rfl))
 f88:=⟨Tryz.f387.name,by decide,Tryz.func387.trans (congrArg some (by kernel_rfl))⟩
 f89:=Tryz.func388.trans (congrArg some (by kernel_rfl))
 f90:=Tryz.func389.trans (congrArg some (by kernel_rfl))
 f91:=⟨Tryz.f390.name,by decide,Tryz.func390.trans (congrArg some (by kernel_rfl))⟩
 f92:=⟨Tryz.f391.name,by decide,Tryz.func391.trans (congrArg some (by kernel_rfl))⟩
 f96:=⟨Tryz.f393.name,by decide,Tryz.func393.trans (congrArg some (by kernel_rfl))⟩
 t0:=Tryz.underlying0
 a0:=Tryz.isAgg0
 z0:=Tryz.sizeOf0
 v0:=Tryz.zeroValue0
 t3:=Tryz.underlying3
 a3:=Tryz.isAgg3
 z3:=Tryz.sizeOf3
 v3:=Tryz.zeroValue3
 t4:=Tryz.underlying4
 a4:=Tryz.isAgg4
 z4:=Tryz.sizeOf4
 v4:=Tryz.zeroValue4
 t5:=Tryz.underlying5
 a5:=Tryz.isAgg5
 z5:=Tryz.sizeOf5
 v5:=Tryz.zeroValue5
 t9:=Tryz.underlying9
 a9:=Tryz.isAgg9
 z9:=Tryz.sizeOf9
 v9:=Tryz.zeroValue9
 t22:=Tryz.underlying40
 a22:=Tryz.isAgg40
 z22:=Tryz.sizeOf40
 v22:=Tryz.zeroValue40
 t23:=Tryz.underlying2
 a23:=Tryz.isAgg2
 z23:=Tryz.sizeOf2
 v23:=Tryz.zeroValue2
 t44:=Tryz.underlying362
 a44:=Tryz.isAgg362
 z44:=Tryz.sizeOf362
 v44:=Tryz.zeroValue362
 t51:=Tryz.underlying276
 a51:=Tryz.isAgg276
 z51:=Tryz.sizeOf276
 v51:=Tryz.zeroValue276
 t60:=Tryz.underlying357
 a60:=Tryz.isAgg357
 z60:=Tryz.sizeOf357
 v60:=Tryz.zeroValue357
 t61:=Tryz.underlying358
 a61:=Tryz.isAgg358
 z61:=Tryz.sizeOf358
 v61:=Tryz.zeroValue358
 t67:=Tryz.underlying365
 a67:=Tryz.isAgg365
 z67:=Tryz.sizeOf365
 v67:=Tryz.zeroValue365
 t69:=Tryz.underlying84
 a69:=Tryz.isAgg84
 z69:=Tryz.sizeOf84
 v69:=Tryz.zeroValue84
 t75:=Tryz.underlying366
 a75:=Tryz.isAgg366
 z75:=Tryz.sizeOf366
 v75:=Tryz.zeroValue366
 t79:=Tryz.underlying226
 a79:=Tryz.isAgg226
 z79:=Tryz.sizeOf226
 v79:=Tryz.zeroValue226
 t83:=Tryz.underlying371
 a83:=Tryz.isAgg371
 z83:=Tryz.sizeOf371
 v83:=Tryz.zeroValue371
 t84:=Tryz.underlying372
 a84:=Tryz.isAgg372
 z84:=Tryz.sizeOf372
 v84:=Tryz.zeroValue372}
theorem D2W:SortsInts Tryz.prog 316:=
 C9Z Tryz.call316 (fun p cap w=>AnyG.slices_Sort_int_none C1b p cap w) (fun blk off cap zs w h1 h2 h3=>AnyG.slices_Sort_int C1b blk off cap zs w h1 h2 h3)
end Go.Proofs.YtoljnakoodalpaaGreat
