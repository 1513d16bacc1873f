/- The contracts: each function of the program does what its function on plain data says. Made by program. -/
import Derived.Test.YtoljnakoodalpaaGreatCoh
import Derived.Test.YtoljnakoodalpaaGreatCon2
import Derived.Test.YtoljnakoodalpaaGreatCon3
import Derived.Test.YtoljnakoodalpaaGreatCon4
set_option linter.unusedVariables false
set_option linter.unusedSimpArgs false
set_option linter.unnecessarySimpa false
set_option maxHeartbeats 40000000
set_option maxRecDepth 20000
namespace Go.Proofs.YtoljnakoodalpaaGreat
open Go.Vc Go.Dec Go.Win
theorem A3Z (c d:Int) (r:Bool) (h:U7 c d=r):A5 Tryz.prog 246 [iI c,iI d] [] (.sb r) []:=
 C0 Tryz.func246 Tryz.call246 1 (eN (eN (eN (An (fun a=>An (fun b=>(by cases h;exact (An (D4y (aR (aR a b) rfl)) trivial))) (fun b=>(by cases h;exact (An (D4y (aL (aR a b))) trivial)))) (fun a=>(by cases h;exact (An (D4y (aL (aL a))) trivial)))))))
theorem A8r (c d e r:Int) (h:A0D c d e=some r):A5 Tryz.prog 258 [iI c,iI d,iI e] [] (iI r) []:=
 C0 Tryz.func258 Tryz.call258 1 (eN (eN (bC h fun a b h=>cK (An (cW (X4 (A7 c) (A7 e) _ rfl) zz) (r1 (cK (An (cW (Q6 (A7 d) _ rfl) zz) (r1 (cK (An (cW (A8Y (H5 (A7 c) (A7 e)) (F1 (A7 d)) a b) zz) (r1 (eN (eN (eN (cD h (fun f h=>lf) (fun f h=>lf))))))))))))))))
theorem B1b (d c:Int) (r:Int×Bool) (h:A3c d c=some r):A5 Tryz.prog 370 [iI d,iI c] [] (.tup [iI r.1, .sb r.2]) []:=
 C0 Tryz.func370 Tryz.call370 1 (eN (eN (uO [tM 0 (iI d),tM 1 (iI c),tM 16 (.sb ((c==0)||((d==(-9223372036854775808:Int))&&(c==(-1:Int)))))] 1000000 (An (An (fun e=>An (fun f=>jV ((r3 (An (D4y (oR e (aR f rfl))) trivial)))) (fun f=>jV ((r3 (An (D4y (oR e (aL f))) trivial))))) (fun e=>jV ((r3 (An (D4y (oL e)) trivial))))) (fun _ _=>cD h (fun i h=>lf) (fun i h=>eN (kC h fun a h=>An (oD a) (eN (kC h fun b h=>uO [tM 6 (iI (A2 (Int.tdiv d c))),tM 30 (.sb (((Int.tmod d c) !=0)&&(!((decide (d<0))==(decide (c<0))))))] 2000000 (An (An (oD b) (An (fun g=>jV ((r2 (An (D4y (aR g rfl)) trivial)))) (fun g=>jV ((r2 (An (D4y (aL g)) trivial)))))) (fun _ _=>eN (cD h (fun j h=>lf) (fun j h=>lf)))))))))))))
theorem C0l (e f r:Int) (h:A7T e f=some r):A5 Tryz.prog 333 [iI e,iI f] [] (iI r) []:=
 C0 Tryz.func333 Tryz.call333 1 (eN (eN (bC h fun a b h=>cK (An (cW (B1b e 2 a b) zz) (r1 (eN (bC h fun c d h=>cK (An (cW (B1b f 2 c d) zz) (r1 (eN (An (by decide) lf)))))))))))
theorem A3Y (c d:Int) (r:B4×Bool) (h:Y3 c d=some r):A5 Tryz.prog 250 [iI c,iI d] [] (.tup [.agg (H9 r.1), .sb r.2]) []:=
 C0 Tryz.func250 Tryz.call250 1 (eN (eN (cD h (fun e h=>lf) (fun e h=>eN (bC h fun a b h=>cK (An (cW (A8Z c _ rfl) zz) (r1 (cK (An (cW (C0l c d a b) zz) (r1 (cK (An (cW (A8Z a _ rfl) zz) (r1 (cK (An (cW (A8Z d _ rfl) zz) (r1 lf))))))))))))))))
theorem B5m (k:List B7) (r:B4) (h:A6l k=some r):A5 Tryz.prog 248 [lF 2 (List.map C6 k)] [] (.agg (H9 r)) []:=
 C0 Tryz.func248 Tryz.call248 1 (eN (eN (eX [iI (k.length:Int)] (An (lenS C6 k) (cD h (fun l h=>eN (bC h fun e f h=>cK (An (cW (T3 0 e f) zz) (r1 lf)))) (fun l h=>eN (bC h fun a g h=>cK (An (cW (A9H k a g) zz) (r1 (eN (bC h fun b i h=>kC h fun j h=>bC h fun c d h=>eX [iI b.T,iI b.Aw] (An (B2 C6 i) (An (oD j) (cK (An (cW (A3Y (A2 ((A2 (a-(D9 .i64 1 (A7 b.Aw))))+1)) a c d) zz) (r1 lf))))))))))))))))
theorem B2i (l:List A6) (o m:Int) (r:Int×Int) (h:A04 l o m=some r):A5 Tryz.prog 256 [lF 3 (List.map A3 l),iI o,iI m] [] (.tup [iI r.1,iI r.2]) []:=
 C0 Tryz.func256 Tryz.call256 1 (eN (eN (eN (eX [iI (l.length:Int)] (An (lenS A3 l) (lO h (fun q=>[tM 0 (lF 3 (List.map A3 l)),tM 2 (iI m),tM 8 (iI q.1),tM 9 (iI o),tM 14 (lF 3 (List.map A3 l)),tM 15 (iI (l.length:Int)),tM 16 (iI q.2)]) fun n h=>An (jT (_,n) (An h zz)) (nx fun ⟨a,e⟩ m1 x1 h hl1 hr1=>eN (cD h (fun p h=>eN (eN (bC h fun d j h=>eX [iI d.V,iI d.Bk,iI d.Bj] (An (B2 A3 j) (eN (eN (cD h (fun s h=>eN (eN (jR h hl1 zz))) (fun s h=>eN (jR h hl1 zz))))))))) (fun p h=>have h:=F9 h hr1;eN (eX [iI (l.length:Int)] (An (lenS A3 l) (lO h (fun q=>[tM 0 (lF 3 (List.map A3 l)),tM 2 (iI m),tM 8 (iI a),tM 9 (iI q.1),tM 12 (iI q.2)]) fun n h=>An (jT (_,n) (An h zz)) (nx fun ⟨k,f⟩ m1 x1 h hl1 hr1=>eN (cD h (fun t h=>eN (eN (bC h fun b g h=>eX [iI b.V,iI b.Bk,iI b.Bj] (An (B2 A3 g) (eN (cD h (fun u h=>eN (bC h fun c i h=>eX [iI c.V,iI c.Bk,iI c.Bj] (An (B2 A3 i) (eN (jR h hl1 zz))))) (fun u h=>eN (jR h hl1 zz)))))))) (fun t h=>have h:=F9 h hr1;lf)))))))))))))))
end Go.Proofs.YtoljnakoodalpaaGreat
