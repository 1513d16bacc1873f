/- The library's sort and clone at this program: the kit's shelf of contracts, laid. Made by program. -/
import Derived.Test.YtnanpdjjnegknaaGreatChecked
import Derived.Test.YtnanpdjjnegknaaGreatVc
import Derived.Shelf.SortG.Plain
import Derived.Shelf.SortG.SortNone
namespace Go.Proofs.YtnanpdjjnegknaaGreat
open Go.Vc Go.Dec
def C2z:Go.Shelf.Ren:=⟨fun|53=>474|59=>571|63=>546|64=>547|68=>580|70=>565|71=>566|72=>567|73=>568|74=>569|75=>570|76=>572|77=>573|78=>574|79=>540|88=>575|89=>576|90=>577|91=>578|92=>579|96=>581|n=>n,fun|0=>0|3=>3|4=>4|5=>5|9=>9|22=>33|23=>2|44=>159|51=>292|60=>552|61=>553|67=>559|69=>44|75=>560|79=>276|83=>565|84=>566|n=>n,fun n=>n⟩
theorem C1Z:SlLaysN.n53 Tryz.prog C2z:= {
 mixed:=by kernel_rfl
 f53:=⟨Tryz.f474.name,by decide,Tryz.func474.trans (congrArg some (by kernel_rfl))⟩
 f59:=⟨Tryz.f571.name,by decide,Tryz.func571.trans (congrArg some (by kernel_rfl))⟩
 f63:=⟨Tryz.f546.name,by decide,Tryz.func546.trans (congrArg some (by kernel_rfl))⟩
 f64:=Tryz.func547.trans (congrArg some (by kernel_rfl))
 f68:=⟨Tryz.f580.name,by decide,Tryz.func580.trans (congrArg some (by kernel_rfl))⟩
 f70:=⟨Tryz.f565.name,by decide,Tryz.func565.trans (congrArg some (by kernel_rfl))⟩
 f71:=⟨Tryz.f566.name,by decide,Tryz.func566.trans (congrArg some (by kernel_rfl))⟩
 f72:=⟨Tryz.f567.name,by decide,Tryz.func567.trans (congrArg some (by kernel_rfl))⟩
 f73:=⟨Tryz.f568.name,by decide,Tryz.func568.trans (congrArg some (by kernel_rfl))⟩
 f74:=⟨Tryz.f569.name,by decide,Tryz.func569.trans (congrArg some (by kernel_rfl))⟩
 f75:=⟨Tryz.f570.name,by decide,Tryz.func570.trans (congrArg some (by kernel_rfl))⟩
 f76:=⟨Tryz.f572.name,by decide,Tryz.func572.trans (congrArg some (by kernel_rfl))⟩
 f77:=⟨Tryz.f573.name,by decide,Tryz.func573.trans (congrArg some (by kernel_rfl))⟩
 f78:=Tryz.func574.trans (congrArg some (by kernel_rfl))
 f79:=Tryz.func540.trans (congrArg some (by kernel_rfl))
 f88:=⟨Tryz.f575.name,by decide,Tryz.func575.trans (congrArg some (by kernel_rfl))⟩
 f89:=Tryz.func576.trans (congrArg some (by kernel_rfl))
 f90:=Tryz.func577.trans (congrArg some (by kernel_rfl))
 f91:=⟨Tryz.f578.name,by decide,Tryz.func578.trans (congrArg some (by kernel_rfl))⟩
 f92:=⟨Tryz.f579.name,by decide,Tryz.func579.trans (congrArg some (by kernel_rfl))⟩
 f96:=⟨Tryz.f581.name,by decide,Tryz.func581.trans (congrArg some (by kernel_rfl))⟩
 t0:=Tryz.underlying0
 a0:=Tryz.isAgg0
 z0:=Tryz.sizeOf0
 v0:=Tryz.zeroValue0
 t3:=Tryz.underlying3
 a3:=Tryz.isAgg3
 z3:=Tryz.sizeOf3
 v3:=Tryz.zeroValue3
 t4:=Tryz.underlying4
 a4:=Tryz.isAgg4
 z4:=Tryz.sizeOf4
 v4:=Tryz.zeroValue4
 t5:=Tryz.underlying5
 a5:=Tryz.isAgg5
 z5:=Tryz.sizeOf5
 v5:=Tryz.zeroValue5
 t9:=Tryz.underlying9
 a9:=Tryz.isAgg9
 z9:=Tryz.sizeOf9
 v9:=Tryz.zeroValue9
 t22:=Tryz.underlying33
 a22:=Tryz.isAgg33
 z22:=Tryz.sizeOf33
 v22:=Tryz.zeroValue33
 t23:=Tryz.underlying2
 a23:=Tryz.isAgg2
 z23:=Tryz.sizeOf2
 v23:=Tryz.zeroValue2
 t44:=Tryz.underlying159
 a44:=Tryz.isAgg159
 z44:=Tryz.sizeOf159
 v44:=Tryz.zeroValue159
 t51:=Tryz.underlying292
 a51:=Tryz.isAgg292
 z51:=Tryz.sizeOf292
 v51:=Tryz.zeroValue292
 t60:=Tryz.underlying552
 a60:=Tryz.isAgg552
 z60:=Tryz.sizeOf552
 v60:=Tryz.zeroValue552
 t61:=Tryz.underlying553
 a61:=Tryz.isAgg553
 z61:=Tryz.sizeOf553
 v61:=Tryz.zeroValue553
 t67:=Tryz.underlying559
 a67:=Tryz.isAgg559
 z67:=Tryz.sizeOf559
 v67:=Tryz.zeroValue559
 t69:=Tryz.underlying44
 a69:=Tryz.isAgg44
 z69:=Tryz.sizeOf44
 v69:=Tryz.zeroValue44
 t75:=Tryz.underlying560
 a75:=Tryz.isAgg560
 z75:=Tryz.sizeOf560
 v75:=Tryz.zeroValue560
 t79:=Tryz.underlying276
 a79:=Tryz.isAgg276
 z79:=Tryz.sizeOf276
 v79:=Tryz.zeroValue276
 t83:=Tryz.underlying565
 a83:=Tryz.isAgg565
 z83:=Tryz.sizeOf565
 v83:=Tryz.zeroValue565
 t84:=Tryz.underlying566
 a84:=Tryz.isAgg566
 z84:=Tryz.sizeOf566
 v84:=Tryz.zeroValue566}
theorem C8L:SortsInts Tryz.prog 474:=
 C9D Tryz.call474 (fun p cap w=>AnyG.slices_Sort_int_none C1Z p cap w) (fun blk off cap zs w h1 h2 h3=>AnyG.slices_Sort_int C1Z blk off cap zs w h1 h2 h3)
end Go.Proofs.YtnanpdjjnegknaaGreat
