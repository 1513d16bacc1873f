/- The contracts: each function of the program does what its function on plain data says. Made by program. -/
import Derived.Test.YtoljnakoodalpaaGreatCoh
import Derived.Test.YtoljnakoodalpaaGreatCon1
import Derived.Test.YtoljnakoodalpaaGreatCon4
set_option linter.unusedVariables false
set_option linter.unusedSimpArgs false
set_option linter.unnecessarySimpa false
set_option maxHeartbeats 40000000
set_option maxRecDepth 20000
namespace Go.Proofs.YtoljnakoodalpaaGreat
open Go.Vc Go.Dec Go.Win
theorem B5f (i j k l:Int) (r:Bool) (h:A5d i j k l=r):A5 Tryz.prog 199 [iI i,iI j,iI k,iI l] [] (.sb r) []:=
 C0 Tryz.func199 Tryz.call199 1 (eN (eN (eN (An (fun a=>An (fun b=>An (fun c=>An (fun d=>An (fun e=>An (fun f=>An (fun g=>(by cases h;exact (An (D4y (aR (aR (aR (aR (aR (aR (aR a b) c) d) e) f) g) rfl)) trivial))) (fun g=>(by cases h;exact (An (D4y (aL (aR (aR (aR (aR (aR (aR a b) c) d) e) f) g))) trivial)))) (fun f=>(by cases h;exact (An (D4y (aL (aL (aR (aR (aR (aR (aR a b) c) d) e) f)))) trivial)))) (fun e=>(by cases h;exact (An (D4y (aL (aL (aL (aR (aR (aR (aR a b) c) d) e))))) trivial)))) (fun d=>(by cases h;exact (An (D4y (aL (aL (aL (aL (aR (aR (aR a b) c) d)))))) trivial)))) (fun c=>(by cases h;exact (An (D4y (aL (aL (aL (aL (aL (aR (aR a b) c))))))) trivial)))) (fun b=>(by cases h;exact (An (D4y (aL (aL (aL (aL (aL (aL (aR a b)))))))) trivial)))) (fun a=>(by cases h;exact (An (D4y (aL (aL (aL (aL (aL (aL (aL a)))))))) trivial)))))))
theorem C2P (a b c d:Int) (r:D6×Int) (h:A7d a b c d=r):A5 Tryz.prog 68 [iI a,iI b,iI c,iI d] [] (.tup [.agg (M9 r.1),iI r.2]) []:=
 C0 Tryz.func68 Tryz.call68 1 (eN (eN (cK (An (cW (B5f a b c d _ rfl) zz) (r1 (cD h (fun e h=>lf) (fun e h=>lf)))))))
theorem B09 (i:D6) (r:Int) (h:A21 i=some r):A5 Tryz.prog 127 [.agg (M9 i)] [] (iI r) []:=
 C0 Tryz.func127 Tryz.call127 1 (eN (eN (bC h fun b c h=>bC h fun d e h=>eN (cK (An (cW (B5f i.W i.K i.Cap i.Now _ rfl) zz) (r1 (An (fun j=>cK (An (cW (A7u i.Ac i.K b (I4 (nE j) c)) zz) (r1 (An (fun k=>cK (An (cW (A4x i.Ac d (I4 (nE (oR j k)) e)) zz) (r1 (An (fun m=>have h:=cT (oR (oR j k) m) h;lf) (fun m=>have h:=cF (oR (oR j k) m) h;eN (eX [iI (i.Ac.length:Int)] (An (lenS C6 i.Ac) (lO h (fun q=>[tM 1 (.ptr 1 0),tM 32 (lF 2 (List.map C6 i.Ac)),tM 33 (iI (i.Ac.length:Int)),tM 34 (iI q),tB 1 (M9 i)]) fun s h=>An (jT (_,s) (An h zz)) (nx fun f t u h n l=>eN (cD h (fun o h=>eN (bC h fun a g h=>eX [iI a.T,iI a.Aw] (An (B2 C6 g) (eN (cK (An (cW (W7 i.Now i.W a.T _ rfl) zz) (r1 (cD h (fun p h=>have h:=E6 h l;lf) (fun p h=>eN (jR h n zz)))))))))) (fun o h=>have h:=F9 h l;lf))))))))))) (fun k=>have h:=cT (oL (oR j k)) h;lf))))) (fun j=>have h:=cT (oL (oL j)) h;lf))))))))
theorem C5i (e:D6) (r:B4×Int) (h:B2m e=some r):A5 Tryz.prog 98 [.agg (M9 e)] [] (.tup [.agg (H9 r.1),iI r.2]) []:=
 C0 Tryz.func98 Tryz.call98 1 (eN (eN (bC h fun a b h=>cK (An (cW (B09 e a b) zz) (r1 (eN (cD h (fun f h=>lf) (fun f h=>eN (bC h fun c d h=>cK (An (cW (B2c e.Ac c d) zz) (r1 lf)))))))))))
end Go.Proofs.YtoljnakoodalpaaGreat
