/- The contracts: each function of the program does what its function on plain data says. Made by program. -/
import Derived.Test.YtoljnakoodalpaaGreatCoh
import Derived.Test.YtoljnakoodalpaaGreatCon1
set_option linter.unusedVariables false
set_option linter.unusedSimpArgs false
set_option linter.unnecessarySimpa false
set_option maxHeartbeats 40000000
set_option maxRecDepth 20000
namespace Go.Proofs.YtoljnakoodalpaaGreat
open Go.Vc Go.Dec Go.Win
theorem B1C (o:List A4) (i j:Int) (r:List A4) (h:A3S o i j=some r):B2 Tryz.prog 211 [lF 7 (List.map A8 o),iI i,iI j] [] (lF 7 (List.map A8 r)) []:=
 C0 Tryz.func211 Tryz.call211 1 (eN (lO h (fun q=>[tM 0 (lF 7 (List.map A8 q)),tM 1 (iI i),tM 2 (iI j)]) fun t h=>An (jT (_,t) (An h zz)) (nx fun a u v h m n=>eN (bC h fun b d h=>uO [tM 0 (lF 7 (List.map A8 a)),tM 1 (iI i),tM 2 (iI j),tM 19 (.sb ((decide ((a.length:Int)>(1:Int)))&&(!(L9 i j b.T))))] 1000000 (An (eX [iI (a.length:Int)] (An (lenS A8 a) (An (fun k=>eX (A8 b) (An (D5 A8 (I1 k d)) (cK (An (cW (Q6 i j b.T _ rfl) zz) (r1 (jV ((r1 (fr (r2 (An (D3d (aR k rfl)) trivial))))))))))) (fun k=>jV ((r1 (fr (r2 (An (D3d (aL k)) trivial))))))))) (fun _ _=>cD h (fun p h=>eN (kC h fun e h=>An (kA (oD e)) (jR h m (r1 (An ff (An lE zz)))))) (fun p h=>have h:=J2 h n;eN (bC h fun c f h=>uO [tM 0 (lF 7 (List.map A8 a)),tM 34 (.sb (((a.length:Int)==(1:Int))&&(!(L9 i j c.T))))] 2000000 (An (eX [iI (a.length:Int)] (An (lenS A8 a) (An (fun l=>eX (A8 c) (An (D5 A8 (I1 l f)) (cK (An (cW (Q6 i j c.T _ rfl) zz) (r1 (jV ((r1 (fr (An (D3d (aR l rfl)) trivial)))))))))) (fun l=>jV ((r1 (fr (An (D3d (aL l)) trivial)))))))) (fun _ _=>cD h (fun s h=>lf) (fun s h=>eN (kC h fun g h=>An (kA (oD g)) (by (first|cases h|rw [<-oJ h]);exact (An ff (An lE trivial)))))))))))))))
end Go.Proofs.YtoljnakoodalpaaGreat
