/- The contracts: each function of the program does what its function on plain data says. Made by program. -/
import Derived.Test.YtoljnakoodalpaaGreatCoh
import Derived.Test.YtoljnakoodalpaaGreatCon15
import Derived.Test.YtoljnakoodalpaaGreatCon17
import Derived.Test.YtoljnakoodalpaaGreatCon3
import Derived.Test.YtoljnakoodalpaaGreatCon4
import Derived.Test.YtoljnakoodalpaaGreatCon5
import Derived.Test.YtoljnakoodalpaaGreatCon7
import Derived.Test.YtoljnakoodalpaaGreatCon8
import Derived.Test.YtoljnakoodalpaaGreatCon9
import Derived.Test.YtoljnakoodalpaaGreatCon10
import Derived.Test.YtoljnakoodalpaaGreatCon11
import Derived.Test.YtoljnakoodalpaaGreatCon14
set_option linter.unusedVariables false
set_option linter.unusedSimpArgs false
set_option linter.unnecessarySimpa false
set_option maxHeartbeats 40000000
set_option maxRecDepth 20000
namespace Go.Proofs.YtoljnakoodalpaaGreat
open Go.Vc Go.Dec Go.Win
theorem B4O (I:B3) (J:Int) (r:B3×Int) (h:J7 I J=some r):B2 Tryz.prog 17 [.agg (E8 I),iI J] [] (.tup [.agg (E8 r.1),iI r.2]) []:=
 C0 Tryz.func17 Tryz.call17 1 (eN (eN (bC h fun w F h=>cK (An (cW (Z1 I w F) zz) (r1 (eN (cD h (fun N h=>lf) (fun N h=>eN (eN (eN (eX (some (⟨Int×C4×D2×D8×B9×C2×D3×Int×(List Int)×B4×B6,fun q=>[tM 2 (.ptr 1 0),tM 4 (.ptr 2 0),tM 6 (iI q.1),tB 1 (List.append (G2 I.Ai) (List.append (I8 q.2.1) (List.append (J4 q.2.2.1) (List.append (K8 q.2.2.2.1) (List.append (H4 q.2.2.2.2.1) (List.append (H7 q.2.2.2.2.2.1) (List.append (J8 q.2.2.2.2.2.2.1) (iI q.2.2.2.2.2.2.2.1::(lF 1 (List.map (eI .i64) q.2.2.2.2.2.2.2.2.1)::(List.append (G4 q.2.2.2.2.2.2.2.2.2.1) (lF 5 (List.map D1 I.Ak.Ah)::(List.append (F3 I.Af) (G1 q.2.2.2.2.2.2.2.2.2.2))))))))))))),tB 2 [iI 0,iI 0,iI 0,iI 0,iI 0,iI 0,iI 0,iI 0,iI 0,iI 0,iI 0, .nilS,iI 0,iI 0,iI 0,iI 0, .nilS,iI 0,iI 0,iI 0,iI 0,iI 0, .nilS,iI 0,iI 0,iI 0,iI 0,iI 0,iI 0, .nilS,iI 0,iI 0,iI 0,iI 0,iI 0, .nilS,iI 0,iI 0,iI 0, .nilS,iI 0, .nilS, .bool false,iI 0,iI 0,iI 0, .nilS, .nilS,iI 0,iI 0,iI 0, .nilS,iI 0,iI 0,iI 0,iI 0, .nilS]],fun q=>K0 I q.1 q.2.1 q.2.2.1 q.2.2.2.1 q.2.2.2.2.1 q.2.2.2.2.2.1 q.2.2.2.2.2.2.1 q.2.2.2.2.2.2.2.1 q.2.2.2.2.2.2.2.2.1 q.2.2.2.2.2.2.2.2.2.1 q.2.2.2.2.2.2.2.2.2.2=some r,fun _=>0⟩,1000000)) (An (cD h (fun O h=>eN (bC h fun v G h=>cK (An (cW (B7q I.Aj J v G) zz) (r1 (jT (v.2,v.1,I.Ap,I.Sum,I.Al,I.Am,I.Bb,I.Aq.Now,I.Aq.Bc,I.Ad,I.Aa) (An h zz)))))) (fun O h=>eN (eN (cD h (fun P h=>eN (bC h fun j x h=>cK (An (cW (B8h I.Ap J j x) zz) (r1 (jT (j.2,I.Aj,j.1,I.Sum,I.Al,I.Am,I.Bb,I.Aq.Now,I.Aq.Bc,I.Ad,I.Aa) (An h zz)))))) (fun P h=>eN (eN (cD h (fun Q h=>eN (bC h fun k y h=>cK (An (cW (C1z I.Sum J k y) zz) (r1 (jT (k.2,I.Aj,I.Ap,k.1,I.Al,I.Am,I.Bb,I.Aq.Now,I.Aq.Bc,I.Ad,I.Aa) (An h zz)))))) (fun Q h=>eN (eN (cD h (fun R h=>eN (bC h fun l z h=>cK (An (cW (B7s I.Al J l z) zz) (r1 (jT (l.2,I.Aj,I.Ap,I.Sum,l.1,I.Am,I.Bb,I.Aq.Now,I.Aq.Bc,I.Ad,I.Aa) (An h zz)))))) (fun R h=>eN (eN (cD h (fun S h=>eN (bC h fun m A h=>cK (An (cW (B7t I.Am J m A) zz) (r1 (jT (m.2,I.Aj,I.Ap,I.Sum,I.Al,m.1,I.Bb,I.Aq.Now,I.Aq.Bc,I.Ad,I.Aa) (An h zz)))))) (fun S h=>eN (eN (cD h (fun T h=>eN (bC h fun n B h=>cK (An (cW (B9w I.Bb J n B) zz) (r1 (jT (n.2,I.Aj,I.Ap,I.Sum,I.Al,I.Am,n.1,I.Aq.Now,I.Aq.Bc,I.Ad,I.Aa) (An h zz)))))) (fun T h=>eN (eN (cD h (fun U h=>eN (bC h fun a C h=>cK (An (cW (B8i I.Aq J a C) zz) (r1 (jT (a.2,I.Aj,I.Ap,I.Sum,I.Al,I.Am,I.Bb,a.1.Now,a.1.Bc,I.Ad,I.Aa) (An h zz)))))) (fun U h=>eN (eN (cD h (fun V h=>eN (bC h fun o D h=>cK (An (cW (B6l I.Ad J o D) zz) (r1 (jT (o.2,I.Aj,I.Ap,I.Sum,I.Al,I.Am,I.Bb,I.Aq.Now,I.Aq.Bc,o.1,I.Aa) (An h zz)))))) (fun V h=>eN (eN (cD h (fun K h=>eN (bC h fun p E h=>cK (An (cW (B4J I.Aa J p E) zz) (r1 (jT (p.2,I.Aj,I.Ap,I.Sum,I.Al,I.Am,I.Bb,I.Aq.Now,I.Aq.Bc,I.Ad,p.1) (An h zz)))))) (fun K h=>eN (cK (An (cW (B0K J _ rfl) zz) (r1 (eN (cD h (fun L h=>eN (jT (3,I.Aj,I.Ap,I.Sum,I.Al,I.Am,I.Bb,I.Aq.Now,I.Aq.Bc,I.Ad,I.Aa) (An h zz))) (fun L h=>jT (w,I.Aj,I.Ap,I.Sum,I.Al,I.Am,I.Bb,I.Aq.Now,I.Aq.Bc,I.Ad,I.Aa) (An h zz))))))))))))))))))))))))))))))))) (fun ⟨H,s,b,c,d,e,f,t,u,g,i⟩ h=>eN (cD h (fun M h=>lf) (fun M h=>lf)))))))))))))))
end Go.Proofs.YtoljnakoodalpaaGreat
