/- The contracts: each function of the program does what its function on plain data says. Made by program. -/
import Derived.Test.YtoljnakoodalpaaGreatCoh
set_option linter.unusedVariables false
set_option linter.unusedSimpArgs false
set_option linter.unnecessarySimpa false
set_option maxHeartbeats 40000000
set_option maxRecDepth 20000
namespace Go.Proofs.YtoljnakoodalpaaGreat
open Go.Vc Go.Dec Go.Win
theorem C2G (f k:A5) (r:Bool) (h:B0j f k=some r):B2 Tryz.prog 194 [.agg (D1 f), .agg (D1 k)] [] (.sb r) []:=
 C0 Tryz.func194 Tryz.call194 1 (eN (eN (eN (An (fun g=>An (fun i=>An (fun j=>An (fun l=>eX [iI (f.Au.length:Int)] (An (lenS H5 f.Au) (eX [iI (k.Au.length:Int)] (An (lenS H5 k.Au) (An (fun n=>have h:=cT (oR (oR (oR (oR g i) j) l) n) h;lf) (fun n=>have h:=cF (oR (oR (oR (oR g i) j) l) n) h;eN (eX [iI (f.Au.length:Int)] (An (lenS H5 f.Au) (lO h (fun q=>[tM 2 (.ptr 1 0),tM 3 (.ptr 2 0),tM 43 (iI (f.Au.length:Int)),tM 44 (iI q),tB 1 (D1 f),tB 2 (D1 k)]) fun t h=>An (jT (_,t) (An h zz)) (nx fun c u v h o m=>eN (cD h (fun p h=>eN (eN (bC h fun a d h=>bC h fun b e h=>eX [iI a.I,iI a.V] (An (D5 H5 d) (eX [iI b.I,iI b.V] (An (D5 H5 e) (cD h (fun s h=>have h:=G3 h m;lf) (fun s h=>eN (jR h o zz))))))))) (fun p h=>have h:=J2 h m;lf)))))))))))) (fun l=>have h:=cT (oL (oR (oR (oR g i) j) l)) h;lf)) (fun j=>have h:=cT (oL (oL (oR (oR g i) j))) h;lf)) (fun i=>have h:=cT (oL (oL (oL (oR g i)))) h;lf)) (fun g=>have h:=cT (oL (oL (oL (oL g)))) h;lf)))))
theorem C2H (i j:D6) (r:Bool) (h:A5s i j=some r):B2 Tryz.prog 59 [.agg [lF 5 (List.map D1 i.Ah)], .agg [lF 5 (List.map D1 j.Ah)]] [] (.sb r) []:=
 C0 Tryz.func59 Tryz.call59 1 (eN (eN (eX [iI (i.Ah.length:Int)] (An (lenS D1 i.Ah) (eX [iI (j.Ah.length:Int)] (An (lenS D1 j.Ah) (cD h (fun m h=>lf) (fun m h=>eN (eX [iI (i.Ah.length:Int)] (An (lenS D1 i.Ah) (lO h (fun q=>[tM 2 (.ptr 1 0),tM 3 (.ptr 2 0),tM 15 (iI (i.Ah.length:Int)),tM 16 (iI q),tB 1 [lF 5 (List.map D1 i.Ah)],tB 2 [lF 5 (List.map D1 j.Ah)]]) fun p h=>An (jT (_,p) (An h zz)) (nx fun c s t h l k=>eN (cD h (fun n h=>eN (eN (bC h fun a f h=>bC h fun b g h=>bC h fun d e h=>eX (D1 a) (An (D5 D1 f) (eX (D1 b) (An (D5 D1 g) (cK (An (cW (C2G a b d e) zz) (r1 (cD h (fun o h=>have h:=G3 h k;lf) (fun o h=>eN (jR h l zz)))))))))))) (fun n h=>have h:=J2 h k;lf))))))))))))))
end Go.Proofs.YtoljnakoodalpaaGreat
