/- The contracts: each function of the program does what its function on plain data says. Made by program. -/
import Derived.Test.YtoljnakoodalpaaGreatCoh
import Derived.Test.YtoljnakoodalpaaGreatCon1
import Derived.Test.YtoljnakoodalpaaGreatCon2
set_option linter.unusedVariables false
set_option linter.unusedSimpArgs false
set_option linter.unnecessarySimpa false
set_option maxHeartbeats 40000000
set_option maxRecDepth 20000
namespace Go.Proofs.YtoljnakoodalpaaGreat
open Go.Vc Go.Dec Go.Win
theorem B33 (i j k l:Int) (r:Bool) (h:A4Y i j k l=r):B2 Tryz.prog 199 [iI i,iI j,iI k,iI l] [] (.sb r) []:=
 C0 Tryz.func199 Tryz.call199 1 (eN (eN (eN (An (fun a=>An (fun b=>An (fun c=>An (fun d=>An (fun e=>An (fun f=>An (fun g=>(by cases h;exact (An (D3d (aR (aR (aR (aR (aR (aR (aR a b) c) d) e) f) g) rfl)) trivial))) (fun g=>(by cases h;exact (An (D3d (aL (aR (aR (aR (aR (aR (aR a b) c) d) e) f) g))) trivial)))) (fun f=>(by cases h;exact (An (D3d (aL (aL (aR (aR (aR (aR (aR a b) c) d) e) f)))) trivial)))) (fun e=>(by cases h;exact (An (D3d (aL (aL (aL (aR (aR (aR (aR a b) c) d) e))))) trivial)))) (fun d=>(by cases h;exact (An (D3d (aL (aL (aL (aL (aR (aR (aR a b) c) d)))))) trivial)))) (fun c=>(by cases h;exact (An (D3d (aL (aL (aL (aL (aL (aR (aR a b) c))))))) trivial)))) (fun b=>(by cases h;exact (An (D3d (aL (aL (aL (aL (aL (aL (aR a b)))))))) trivial)))) (fun a=>(by cases h;exact (An (D3d (aL (aL (aL (aL (aL (aL (aL a)))))))) trivial)))))))
theorem C2m (a b c d:Int) (r:D2×Int) (h:A61 a b c d=r):B2 Tryz.prog 68 [iI a,iI b,iI c,iI d] [] (.tup [.agg (J4 r.1),iI r.2]) []:=
 C0 Tryz.func68 Tryz.call68 1 (eN (eN (cK (An (cW (B33 a b c d _ rfl) zz) (r1 (cD h (fun e h=>lf) (fun e h=>lf)))))))
theorem A6D (i:D2) (r:Int) (h:A1p i=some r):B2 Tryz.prog 127 [.agg (J4 i)] [] (iI r) []:=
 C0 Tryz.func127 Tryz.call127 1 (eN (eN (bC h fun b c h=>bC h fun d e h=>eN (cK (An (cW (B33 i.W i.K i.Cap i.Now _ rfl) zz) (r1 (An (fun j=>cK (An (cW (A19 i.Ab i.K b (I1 (nE j) c)) zz) (r1 (An (fun k=>cK (An (cW (W4 i.Ab d (I1 (nE (oR j k)) e)) zz) (r1 (An (fun m=>have h:=cT (oR (oR j k) m) h;lf) (fun m=>have h:=cF (oR (oR j k) m) h;eN (eX [iI (i.Ab.length:Int)] (An (lenS C6 i.Ab) (lO h (fun q=>[tM 1 (.ptr 1 0),tM 32 (lF 2 (List.map C6 i.Ab)),tM 33 (iI (i.Ab.length:Int)),tM 34 (iI q),tB 1 (J4 i)]) fun s h=>An (jT (_,s) (An h zz)) (nx fun f t u h n l=>eN (cD h (fun o h=>eN (bC h fun a g h=>eX [iI a.T,iI a.As] (An (D5 C6 g) (eN (cK (An (cW (Q6 i.Now i.W a.T _ rfl) zz) (r1 (cD h (fun p h=>have h:=G3 h l;lf) (fun p h=>eN (jR h n zz)))))))))) (fun o h=>have h:=J2 h l;lf))))))))))) (fun k=>have h:=cT (oL (oR j k)) h;lf))))) (fun j=>have h:=cT (oL (oL j)) h;lf))))))))
theorem B7m (l:List A3) (n o:Int) (r:List A3) (h:A4T l n o=some r):B2 Tryz.prog 129 [lF 2 (List.map C6 l),iI n,iI o] [] (lF 2 (List.map C6 r)) []:=
 C0 Tryz.func129 Tryz.call129 1 (eN (eN (bC h fun c d h=>bC h fun e f h=>bC h fun a b h=>eN (cK (An (cW (A19 l n c d) zz) (r1 (An (fun k=>cK (An (cW (B32 l o e (I1 (nE k) f)) zz) (r1 (An (fun m=>cK (An (cW (W4 l a (I1 (nE (oR k m)) b)) zz) (r1 (An (fun p=>have h:=cT (oR (oR k m) p) h;lf) (fun p=>have h:=cF (oR (oR k m) p) h;eN (kC h fun g h=>bC h fun i j h=>An (kA (oD g)) (eX (CK.gen [] (some 515) _ _ _) (An (G5.wk (A7R (([]:List A3)++l) n o i j) (r2 lE)) (An rfl (An rfl lf)))))))))) (fun m=>have h:=cT (oL (oR k m)) h;lf))))) (fun k=>have h:=cT (oL (oL k)) h;lf))))))))
theorem C4J (g:D2) (r:D2×Int) (h:A87 g=some r):B2 Tryz.prog 26 [.agg (J4 g)] [] (.tup [.agg (J4 r.1),iI r.2]) []:=
 C0 Tryz.func26 Tryz.call26 1 (eN (eN (bC h fun a b h=>cK (An (cW (A6D g a b) zz) (r1 (eN (cD h (fun i h=>lf) (fun i h=>eN (bC h fun c d h=>cK (An (cW (W4 g.Ab c d) zz) (r1 (cD h (fun j h=>lf) (fun j h=>eN (bC h fun e f h=>cK (An (cW (B7m g.Ab g.K g.Now e f) zz) (r1 lf))))))))))))))))
theorem B8h (e:D2) (f:Int) (r:D2×Int) (h:A6g e f=some r):B2 Tryz.prog 81 [.agg (J4 e),iI f] [] (.tup [.agg (J4 r.1),iI r.2]) []:=
 C0 Tryz.func81 Tryz.call81 1 (eN (eN (bC h fun a b h=>cK (An (cW (A6D e a b) zz) (r1 (eN (cD h (fun g h=>lf) (fun g h=>eN (cK (An (cW (Q3 e.Now f _ rfl) zz) (r1 (eN (cD h (fun i h=>lf) (fun i h=>eN (eN (bC h fun c d h=>cK (An (cW (A4W f e.W _ rfl) zz) (r1 (cK (An (cW (B0H e.Ab (U3 f e.W) c d) zz) (r1 lf)))))))))))))))))))))
end Go.Proofs.YtoljnakoodalpaaGreat
