/- The contracts: each function of the program does what its function on plain data says. Made by program. -/
import Derived.Test.YtoljnakoodalpaaGreatCoh
import Derived.Test.YtoljnakoodalpaaGreatCon1
set_option linter.unusedVariables false
set_option linter.unusedSimpArgs false
set_option linter.unnecessarySimpa false
set_option maxHeartbeats 40000000
set_option maxRecDepth 20000
namespace Go.Proofs.YtoljnakoodalpaaGreat
open Go.Vc Go.Dec Go.Win
theorem B2d (f g i:Int) (r:Bool) (h:A4N f g i=r):A5 Tryz.prog 204 [iI f,iI g,iI i] [] (.sb r) []:=
 C0 Tryz.func204 Tryz.call204 1 (eN (eN (eN (An (fun a=>An (fun b=>An (fun c=>An (fun d=>An (fun e=>(by cases h;exact (An (D4y (aR (aR (aR (aR (aR a b) c) d) e) rfl)) trivial))) (fun e=>(by cases h;exact (An (D4y (aL (aR (aR (aR (aR a b) c) d) e))) trivial)))) (fun d=>(by cases h;exact (An (D4y (aL (aL (aR (aR (aR a b) c) d)))) trivial)))) (fun c=>(by cases h;exact (An (D4y (aL (aL (aL (aR (aR a b) c))))) trivial)))) (fun b=>(by cases h;exact (An (D4y (aL (aL (aL (aL (aR a b)))))) trivial)))) (fun a=>(by cases h;exact (An (D4y (aL (aL (aL (aL (aL a)))))) trivial)))))))
theorem C0k (d:Bool) (a b c:Int) (r:C8×Int) (h:A4c d a b c=r):A5 Tryz.prog 74 [.sb d,iI a,iI b,iI c] [] (.tup [.agg (I7 r.1),iI r.2]) []:=
 C0 Tryz.func74 Tryz.call74 1 (eN (eN (cK (An (cW (B2d a b c _ rfl) zz) (r1 (cD h (fun e h=>lf) (fun e h=>lf)))))))
theorem B8a (a:Bool) (b c:Int) (r:Bool) (h:W9 a b c=r):A5 Tryz.prog 148 [.sb a,iI b,iI c] [] (.sb r) []:=
 C0 Tryz.func148 Tryz.call148 1 (eN (eN (cD h (fun d h=>lf) (fun d h=>lf))))
theorem A9l (i:C8) (r:Int) (h:A1E i=some r):A5 Tryz.prog 147 [.agg (I7 i)] [] (iI r) []:=
 C0 Tryz.func147 Tryz.call147 1 (eN (eN (eN (cK (An (cW (B2d i.W i.Cap i.Now _ rfl) zz) (r1 (An (fun m=>eX [iI (i.Av.length:Int)] (An (lenS A8 i.Av) (An (fun p=>have h:=cT (oR m p) h;lf) (fun p=>have h:=cF (oR m p) h;eN (eX [iI (i.Av.length:Int)] (An (lenS A8 i.Av) (lO h (fun q=>[tM 1 (.ptr 1 0),tM 22 (lF 2 (List.map A8 i.Av)),tM 23 (iI (i.Av.length:Int)),tM 24 (iI q),tB 1 (I7 i)]) fun w h=>An (jT (_,w) (An h zz)) (nx fun c x y h t j=>eN (cD h (fun u h=>eN (bC h fun a f h=>eX [iI a.T,iI a.V] (An (B2 A8 f) (eN (eN (cK (An (cW (W7 i.Now i.W a.T _ rfl) zz) (r1 (An (fun l=>An (fun n=>An (fun s=>have h:=cT (oR (oR l n) s) h;have h:=E6 h j;lf) (fun s=>have h:=cF (oR (oR l n) s) h;eN (bC h fun d g h=>bC h fun b e h=>uO [tM 1 (.ptr 1 0),tM 22 (lF 2 (List.map A8 i.Av)),tM 23 (iI (i.Av.length:Int)),tM 24 (iI c),tM 74 (.sb ((decide (c>0))&&((decide (d.T>=a.T))||(W9 i.Bj a.V b.V)))),tB 1 (I7 i)] 1000000 (An (An (fun k=>eX [iI d.T,iI d.V] (An (B2 A8 (I4 k g)) (An (fun o=>eX [iI b.T,iI b.V] (An (B2 A8 (I4 (aR k (nE o)) e)) (cK (An (cW (B8a i.Bj a.V b.V _ rfl) zz) (r1 (jV ((r1 (fr (r2 (An (D4y (aR k (oR o rfl))) zz))))))))))) (fun o=>jV ((r1 (fr (r2 (An (D4y (aR k (oL o))) zz))))))))) (fun k=>jV ((r1 (fr (r2 (An (D4y (aL k)) zz))))))) (fun _ _=>cD h (fun v h=>have h:=E6 h j;lf) (fun v h=>eN (jR h t zz))))))) (fun n=>have h:=cT (oL (oR l n)) h;have h:=E6 h j;lf)) (fun l=>have h:=cT (oL (oL l)) h;have h:=E6 h j;lf)))))))))) (fun u h=>have h:=F9 h j;lf)))))))))) (fun m=>have h:=cT (oL m) h;lf))))))))
theorem C1V (e:C8) (r:Int×Int) (h:A84 e=some r):A5 Tryz.prog 104 [.agg (I7 e)] [] (.tup [iI r.1,iI r.2]) []:=
 C0 Tryz.func104 Tryz.call104 1 (eN (eN (bC h fun b c h=>cK (An (cW (A9l e b c) zz) (r1 (eN (cD h (fun f h=>lf) (fun f h=>eN (eX [iI (e.Av.length:Int)] (An (lenS A8 e.Av) (cD h (fun g h=>lf) (fun g h=>eN (bC h fun a d h=>eX [iI a.T,iI a.V] (An (B2 A8 d) lf))))))))))))))
end Go.Proofs.YtoljnakoodalpaaGreat
