/- The contracts: each function of the program does what its function on plain data says. Made by program. -/
import Derived.Test.YtoljnakoodalpaaGreatCoh
import Derived.Test.YtoljnakoodalpaaGreatCon1
import Derived.Test.YtoljnakoodalpaaGreatCon4
set_option linter.unusedVariables false
set_option linter.unusedSimpArgs false
set_option linter.unnecessarySimpa false
set_option maxHeartbeats 40000000
set_option maxRecDepth 20000
namespace Go.Proofs.YtoljnakoodalpaaGreat
open Go.Vc Go.Dec Go.Win
theorem B7y (k l m n o:Int) (r:Bool) (h:A8L k l m n o=r):A5 Tryz.prog 200 [iI k,iI l,iI m,iI n,iI o] [] (.sb r) []:=
 C0 Tryz.func200 Tryz.call200 1 (eN (eN (eN (An (fun a=>An (fun b=>An (fun c=>An (fun d=>An (fun e=>An (fun f=>An (fun g=>An (fun i=>An (fun j=>(by cases h;exact (An (D4y (aR (aR (aR (aR (aR (aR (aR (aR (aR a b) c) d) e) f) g) i) j) rfl)) trivial))) (fun j=>(by cases h;exact (An (D4y (aL (aR (aR (aR (aR (aR (aR (aR (aR a b) c) d) e) f) g) i) j))) trivial)))) (fun i=>(by cases h;exact (An (D4y (aL (aL (aR (aR (aR (aR (aR (aR (aR a b) c) d) e) f) g) i)))) trivial)))) (fun g=>(by cases h;exact (An (D4y (aL (aL (aL (aR (aR (aR (aR (aR (aR a b) c) d) e) f) g))))) trivial)))) (fun f=>(by cases h;exact (An (D4y (aL (aL (aL (aL (aR (aR (aR (aR (aR a b) c) d) e) f)))))) trivial)))) (fun e=>(by cases h;exact (An (D4y (aL (aL (aL (aL (aL (aR (aR (aR (aR a b) c) d) e))))))) trivial)))) (fun d=>(by cases h;exact (An (D4y (aL (aL (aL (aL (aL (aL (aR (aR (aR a b) c) d)))))))) trivial)))) (fun c=>(by cases h;exact (An (D4y (aL (aL (aL (aL (aL (aL (aL (aR (aR a b) c))))))))) trivial)))) (fun b=>(by cases h;exact (An (D4y (aL (aL (aL (aL (aL (aL (aL (aL (aR a b)))))))))) trivial)))) (fun a=>(by cases h;exact (An (D4y (aL (aL (aL (aL (aL (aL (aL (aL (aL a)))))))))) trivial)))))))
theorem C7G (a b c d e:Int) (r:E2×Int) (h:B02 a b c d e=r):A5 Tryz.prog 69 [iI a,iI b,iI c,iI d,iI e] [] (.tup [.agg (O2 r.1),iI r.2]) []:=
 C0 Tryz.func69 Tryz.call69 1 (eN (eN (cK (An (cW (B7y a b c d e _ rfl) zz) (r1 (cD h (fun f h=>lf) (fun f h=>lf)))))))
theorem B3H (i:E2) (r:Int) (h:A42 i=some r):A5 Tryz.prog 130 [.agg (O2 i)] [] (iI r) []:=
 C0 Tryz.func130 Tryz.call130 1 (eN (eN (bC h fun b c h=>bC h fun d e h=>eN (cK (An (cW (B7y i.W i.K i.Cap i.Bj i.Now _ rfl) zz) (r1 (An (fun j=>cK (An (cW (A7u i.Ac i.K b (I4 (nE j) c)) zz) (r1 (An (fun k=>cK (An (cW (A4x i.Ac d (I4 (nE (oR j k)) e)) zz) (r1 (An (fun m=>have h:=cT (oR (oR j k) m) h;lf) (fun m=>have h:=cF (oR (oR j k) m) h;eN (eX [iI (i.Ac.length:Int)] (An (lenS C6 i.Ac) (lO h (fun q=>[tM 1 (.ptr 1 0),tM 34 (lF 2 (List.map C6 i.Ac)),tM 35 (iI (i.Ac.length:Int)),tM 36 (iI q),tB 1 (O2 i)]) fun s h=>An (jT (_,s) (An h zz)) (nx fun f t u h n l=>eN (cD h (fun o h=>eN (bC h fun a g h=>eX [iI a.T,iI a.Aw] (An (B2 C6 g) (eN (cK (An (cW (W7 i.Now i.W a.T _ rfl) zz) (r1 (cD h (fun p h=>have h:=E6 h l;lf) (fun p h=>eN (jR h n zz)))))))))) (fun o h=>have h:=F9 h l;lf))))))))))) (fun k=>have h:=cT (oL (oR j k)) h;lf))))) (fun j=>have h:=cT (oL (oL j)) h;lf))))))))
theorem C87 (e:E2) (r:B4×Int) (h:B7d e=some r):A5 Tryz.prog 99 [.agg (O2 e)] [] (.tup [.agg (H9 r.1),iI r.2]) []:=
 C0 Tryz.func99 Tryz.call99 1 (eN (eN (bC h fun a b h=>cK (An (cW (B3H e a b) zz) (r1 (eN (cD h (fun f h=>lf) (fun f h=>eN (bC h fun c d h=>cK (An (cW (B2c e.Ac c d) zz) (r1 lf)))))))))))
end Go.Proofs.YtoljnakoodalpaaGreat
