/- The contracts: each function of the program does what its function on plain data says. Made by program. -/
import Derived.Test.YtoljnakoodalpaaGreatCoh
import Derived.Test.YtoljnakoodalpaaGreatCon1
import Derived.Test.YtoljnakoodalpaaGreatCon4
set_option linter.unusedVariables false
set_option linter.unusedSimpArgs false
set_option linter.unnecessarySimpa false
set_option maxHeartbeats 40000000
set_option maxRecDepth 20000
namespace Go.Proofs.YtoljnakoodalpaaGreat
open Go.Vc Go.Dec Go.Win
theorem B3F (g c d e f:Int) (r:Bool) (h:A0w g c d e f=r):A5 Tryz.prog 201 [iI g,iI c,iI d,iI e,iI f] [] (.sb r) []:=
 C0 Tryz.func201 Tryz.call201 1 (eN (eN (eN (An (fun a=>An (fun b=>cK (An (cW (A9E c d e f _ rfl) zz) (r1 (by cases h;exact (An (D4y (aR (aR a b) rfl)) trivial))))) (fun b=>(by cases h;exact (An (D4y (aL (aR a b))) trivial)))) (fun a=>(by cases h;exact (An (D4y (aL (aL a))) trivial)))))))
theorem C17 (a b c d e:Int) (r:D2×Int) (h:A5Q a b c d e=r):A5 Tryz.prog 70 [iI a,iI b,iI c,iI d,iI e] [] (.tup [.agg (I0 r.1),iI r.2]) []:=
 C0 Tryz.func70 Tryz.call70 1 (eN (eN (cK (An (cW (B3F a b c d e _ rfl) zz) (r1 (cD h (fun f h=>lf) (fun f h=>lf)))))))
theorem B9b (c r:Int) (h:L7 c=r):A5 Tryz.prog 133 [iI c] [] (iI r) []:=
 C0 Tryz.func133 Tryz.call133 1 (eN (eN (eN (An (fun a=>An (fun b=>have h:=cT (oR a b) h;lf) (fun b=>have h:=cF (oR a b) h;lf)) (fun a=>have h:=cT (oL a) h;lf)))))
theorem C7B (a b:Int) (r:Int×Bool) (h:B68 a b=r):A5 Tryz.prog 317 [iI a,iI b] [] (.tup [iI r.1, .sb r.2]) []:=
 C0 Tryz.func317 Tryz.call317 1 (eN (eN (eN (uO [tM 6 (iI (A2 (a-b))),tM 21 (.sb ((!((decide (a>=0))==(decide (b>=0))))&&(!((decide ((A2 (a-b))>=0))==(decide (a>=0))))))] 1000000 (An (An (fun c=>jV ((r2 (An (D4y (aR c rfl)) trivial)))) (fun c=>jV ((r2 (An (D4y (aL c)) trivial))))) (fun _ _=>cD h (fun d h=>lf) (fun d h=>lf)))))))
theorem A20 (a:D7) (b r:Int) (h:P0 a b=r):A5 Tryz.prog 230 [.agg (A9 a),iI b] [] (iI r) []:=
 C0 Tryz.func230 Tryz.call230 1 (eN (eN (eN (cD h (fun c h=>lf) (fun c h=>eN (cD h (fun d h=>lf) (fun d h=>eN (cD h (fun e h=>lf) (fun e h=>eN (cD h (fun f h=>eN (cK (An (cW (C7B a.Bj a.Bk _ rfl) zz) (r1 lf)))) (fun f h=>lf)))))))))))
theorem B3G (b c:D7) (a d:Int) (r:Bool) (h:J8 b c a d=r):A5 Tryz.prog 137 [.agg (A9 b), .agg (A9 c),iI a,iI d] [] (.sb r) []:=
 C0 Tryz.func137 Tryz.call137 1 (eN (eN (cK (An (cW (A20 c a _ rfl) zz) (r1 (cK (An (cW (A20 b a _ rfl) zz) (r1 lf))))))))
theorem B0a (m:D2) (r:Int) (h:A2y m=some r):A5 Tryz.prog 132 [.agg (I0 m)] [] (iI r) []:=
 C0 Tryz.func132 Tryz.call132 1 (eN (eN (bC h fun f g h=>eN (cK (An (cW (B3F m.Bg m.W m.K m.Cap m.Now _ rfl) zz) (r1 (An (fun o=>cK (An (cW (B9b m.Bg _ rfl) zz) (r1 (cK (An (cW (B5i m.Ay m.Bm m.Cap m.Now m.W (L7 m.Bg) f (I4 (nE o) g)) zz) (r1 (An (fun u=>have h:=cT (oR o u) h;lf) (fun u=>have h:=cF (oR o u) h;eN (eX [iI (m.Ay.length:Int)] (An (lenS A9 m.Ay) (lO h (fun q=>[tM 1 (.ptr 1 0),tM 35 (lF 7 (List.map A9 m.Ay)),tM 36 (iI (m.Ay.length:Int)),tM 37 (iI q),tB 1 (I0 m)]) fun z h=>An (jT (_,z) (An h zz)) (nx fun a A B h v p=>eN (cD h (fun w h=>eN (bC h fun b j h=>eX (A9 b) (An (B2 A9 j) (eN (bC h fun d k h=>uO [tM 1 (.ptr 1 0),tM 3 (iI a),tM 4 (.ptr 1028 0),tM 35 (lF 7 (List.map A9 m.Ay)),tM 36 (iI (m.Ay.length:Int)),tM 37 (iI a),tM 57 (.sb ((decide (a>=2))&&(J8 d b m.Bg m.K))),tB 1 (I0 m),tB 1028 (A9 b)] 1000000 (An (An (fun s=>eX (A9 d) (An (B2 A9 (I4 s k)) (cK (An (cW (B3G d b m.Bg m.K _ rfl) zz) (r1 (jV ((r2 (fr (r2 (An (D4y (aR s rfl)) zz))))))))))) (fun s=>jV ((r2 (fr (r2 (An (D4y (aL s)) zz))))))) (fun _ _=>cD h (fun x h=>have h:=E6 h p;lf) (fun x h=>eN (bC h fun e l h=>bC h fun c i h=>uO [tM 1 (.ptr 1 0),tM 35 (lF 7 (List.map A9 m.Ay)),tM 36 (iI (m.Ay.length:Int)),tM 37 (iI a),tM 87 (.sb (((decide (a>=1))&&(decide ((A2 (b.Bm-e.Bm))>1)))&&(!(J8 c b m.Bg m.K)))),tB 1 (I0 m)] 2000000 (An (An (fun n=>eX (A9 e) (An (B2 A9 (I4 n l)) (An (fun t=>eX (A9 c) (An (B2 A9 (I4 (aR n t) i)) (cK (An (cW (B3G c b m.Bg m.K _ rfl) zz) (r1 (jV ((r1 (fr (r2 (An (D4y (aR (aR n t) rfl)) zz))))))))))) (fun t=>jV ((r1 (fr (r2 (An (D4y (aL (aR n t))) zz))))))))) (fun n=>jV ((r1 (fr (r2 (An (D4y (aL (aL n))) zz))))))) (fun _ _=>cD h (fun y h=>have h:=E6 h p;lf) (fun y h=>eN (jR h v zz))))))))))))) (fun w h=>have h:=F9 h p;lf)))))))))))))) (fun o=>have h:=cT (oL o) h;lf))))))))
theorem C3m (n:D2) (r:B4×Int) (h:B0R n=some r):A5 Tryz.prog 100 [.agg (I0 n)] [] (.tup [.agg (H9 r.1),iI r.2]) []:=
 C0 Tryz.func100 Tryz.call100 1 (eN (eN (bC h fun e f h=>cK (An (cW (B0a n e f) zz) (r1 (eN (cD h (fun o h=>lf) (fun o h=>eN (eX [iI (n.Ay.length:Int)] (An (lenS A9 n.Ay) (cD h (fun p h=>eN (bC h fun g i h=>cK (An (cW (Y2 0 _ rfl) zz) (r1 (cK (An (cW (U0 (Q8 0) g i) zz) (r1 lf))))))) (fun p h=>eN (bC h fun a j h=>eX (A9 a) (An (B2 A9 j) (eN (cK (An (cW (W7 n.Now n.W a.T _ rfl) zz) (r1 (cD h (fun q h=>eN (bC h fun k l h=>cK (An (cW (A20 a n.Bg _ rfl) zz) (r1 (cK (An (cW (Y2 (P0 a n.Bg) _ rfl) zz) (r1 (cK (An (cW (U0 (Q8 (P0 a n.Bg)) k l) zz) (r1 lf)))))))))) (fun q h=>eN (bC h fun b m h=>eX (A9 b) (An (B2 A9 m) (eN (cD h (fun s h=>eN (bC h fun c d h=>cK (An (cW (A20 b n.Bg _ rfl) zz) (r1 (cK (An (cW (Y2 (P0 b n.Bg) _ rfl) zz) (r1 (cK (An (cW (U0 (Q8 (P0 b n.Bg)) c d) zz) (r1 lf)))))))))) (fun s h=>eN (cK (An (cW (A20 b n.Bg _ rfl) zz) (r1 (cK (An (cW (A20 a n.Bg _ rfl) zz) (r1 (cK (An (cW (A2a (P0 b n.Bg) (P0 a n.Bg) _ rfl) zz) (r1 lf))))))))))))))))))))))))))))))))))
end Go.Proofs.YtoljnakoodalpaaGreat
