/- The contracts: each function of the program does what its function on plain data says. Made by program. -/
import Derived.Test.YtoljnakoodalpaaGreatCoh
set_option linter.unusedVariables false
set_option linter.unusedSimpArgs false
set_option linter.unnecessarySimpa false
set_option maxHeartbeats 40000000
set_option maxRecDepth 20000
namespace Go.Proofs.YtoljnakoodalpaaGreat
open Go.Vc Go.Dec Go.Win
theorem B7r (f g:List C5) (r:Bool) (h:A1s f g=some r):B2 Tryz.prog 193 [lF 2 (List.map I0 f),lF 2 (List.map I0 g)] [] (.sb r) []:=
 C0 Tryz.func193 Tryz.call193 1 (eN (eN (eX [iI (f.length:Int)] (An (lenS I0 f) (eX [iI (g.length:Int)] (An (lenS I0 g) (cD h (fun k h=>lf) (fun k h=>eN (eX [iI (f.length:Int)] (An (lenS I0 f) (lO h (fun q=>[tM 0 (lF 2 (List.map I0 f)),tM 1 (lF 2 (List.map I0 g)),tM 12 (iI (f.length:Int)),tM 13 (iI q)]) fun n h=>An (jT (_,n) (An h zz)) (nx fun c o p h j i=>eN (cD h (fun l h=>eN (eN (bC h fun a d h=>bC h fun b e h=>eX [iU a.Hi,iU a.Lo] (An (D5 I0 d) (eX [iU b.Hi,iU b.Lo] (An (D5 I0 e) (cD h (fun m h=>have h:=G3 h i;lf) (fun m h=>eN (jR h j zz))))))))) (fun l h=>have h:=J2 h i;lf))))))))))))))
theorem C2D (f g:D3) (r:Bool) (h:A5o f g=some r):B2 Tryz.prog 56 [.agg (J8 f), .agg (J8 g)] [] (.sb r) []:=
 C0 Tryz.func56 Tryz.call56 1 (eN (eN (bC h fun a b h=>eN (An (fun c=>An (fun d=>An (fun e=>cK (An (cW (B7r f.Ae g.Ae a (I1 (aR (aR c d) e) b)) zz) (r1 (by (first|cases h|rw [<-oJ h]);exact (An (D3d (aR (aR (aR c d) e) rfl)) trivial))))) (fun e=>(by (first|cases h|rw [<-oJ h]);exact (An (D3d (aL (aR (aR c d) e))) trivial)))) (fun d=>(by (first|cases h|rw [<-oJ h]);exact (An (D3d (aL (aL (aR c d)))) trivial)))) (fun c=>(by (first|cases h|rw [<-oJ h]);exact (An (D3d (aL (aL (aL c)))) trivial)))))))
end Go.Proofs.YtoljnakoodalpaaGreat
