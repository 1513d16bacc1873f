/- The contracts: each function of the program does what its function on plain data says. Made by program. -/
import Derived.Test.YtoljnakoodalpaaGreatCoh
set_option linter.unusedVariables false
set_option linter.unusedSimpArgs false
set_option linter.unnecessarySimpa false
set_option maxHeartbeats 40000000
set_option maxRecDepth 20000
namespace Go.Proofs.YtoljnakoodalpaaGreat
open Go.Vc Go.Dec Go.Win
theorem B4q (f g:List Int) (r:Bool) (h:X8 f g=some r):B2 Tryz.prog 124 [lF 1 (List.map (eI .i64) f),lF 1 (List.map (eI .i64) g)] [] (.sb r) []:=
 C0 Tryz.func124 Tryz.call124 1 (eN (eN (eX [iI (f.length:Int)] (An (lenS (eI .i64) f) (eX [iI (g.length:Int)] (An (lenS (eI .i64) g) (cD h (fun k h=>lf) (fun k h=>eN (eX [iI (f.length:Int)] (An (lenS (eI .i64) f) (lO h (fun q=>[tM 0 (lF 1 (List.map (eI .i64) f)),tM 1 (lF 1 (List.map (eI .i64) g)),tM 12 (iI (f.length:Int)),tM 13 (iI q)]) fun n h=>An (jT (_,n) (An h zz)) (nx fun a o p h j i=>eN (cD h (fun l h=>eN (eN (bC h fun b c h=>bC h fun d e h=>eX [iI b] (An (D5 (eI .i64) c) (eX [iI d] (An (D5 (eI .i64) e) (cD h (fun m h=>have h:=G3 h i;lf) (fun m h=>eN (jR h j zz))))))))) (fun l h=>have h:=J2 h i;lf))))))))))))))
theorem C2E (d e:E3) (r:Bool) (h:A5p d e=some r):B2 Tryz.prog 57 [.agg [iI d.Now,lF 1 (List.map (eI .i64) d.Bc)], .agg [iI e.Now,lF 1 (List.map (eI .i64) e.Bc)]] [] (.sb r) []:=
 C0 Tryz.func57 Tryz.call57 1 (eN (eN (bC h fun a b h=>eN (An (fun c=>cK (An (cW (B4q d.Bc e.Bc a (I1 c b)) zz) (r1 (by (first|cases h|rw [<-oJ h]);exact (An (D3d (aR c rfl)) trivial))))) (fun c=>(by (first|cases h|rw [<-oJ h]);exact (An (D3d (aL c)) trivial)))))))
end Go.Proofs.YtoljnakoodalpaaGreat
