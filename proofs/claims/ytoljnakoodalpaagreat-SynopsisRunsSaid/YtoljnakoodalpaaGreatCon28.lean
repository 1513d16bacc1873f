/- The contracts: each function of the program does what its function on plain data says. Made by program. -/
import Derived.Test.YtoljnakoodalpaaGreatCoh
set_option linter.unusedVariables false
set_option linter.unusedSimpArgs false
set_option linter.unnecessarySimpa false
set_option maxHeartbeats 40000000
set_option maxRecDepth 20000
namespace Go.Proofs.YtoljnakoodalpaaGreat
open Go.Vc Go.Dec Go.Win
theorem C2I (f j:B7) (r:Bool) (h:A5v f j=some r):B2 Tryz.prog 60 [.agg (F3 f), .agg (F3 j)] [] (.sb r) []:=
 C0 Tryz.func60 Tryz.call60 1 (eN (eN (eN (An (fun g=>An (fun i=>An (fun k=>eX [iI (f.Ao.length:Int)] (An (lenS E2 f.Ao) (eX [iI (j.Ao.length:Int)] (An (lenS E2 j.Ao) (An (fun m=>have h:=cT (oR (oR (oR g i) k) m) h;lf) (fun m=>have h:=cF (oR (oR (oR g i) k) m) h;eN (eX [iI (f.Ao.length:Int)] (An (lenS E2 f.Ao) (lO h (fun q=>[tM 2 (.ptr 1 0),tM 3 (.ptr 2 0),tM 36 (iI (f.Ao.length:Int)),tM 37 (iI q),tB 1 (F3 f),tB 2 (F3 j)]) fun s h=>An (jT (_,s) (An h zz)) (nx fun c t u h n l=>eN (cD h (fun o h=>eN (eN (bC h fun a d h=>bC h fun b e h=>eX [iI a.V,iI a.G,iI a.D] (An (D5 E2 d) (eX [iI b.V,iI b.G,iI b.D] (An (D5 E2 e) (cD h (fun p h=>have h:=G3 h l;lf) (fun p h=>eN (jR h n zz))))))))) (fun o h=>have h:=J2 h l;lf)))))))))))) (fun k=>have h:=cT (oL (oR (oR g i) k)) h;lf)) (fun i=>have h:=cT (oL (oL (oR g i))) h;lf)) (fun g=>have h:=cT (oL (oL (oL g))) h;lf)))))
end Go.Proofs.YtoljnakoodalpaaGreat
