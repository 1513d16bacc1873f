/- The contracts: each function of the program does what its function on plain data says. Made by program. -/
import Derived.Test.YtoljnakoodalpaaGreatCoh
set_option linter.unusedVariables false
set_option linter.unusedSimpArgs false
set_option linter.unnecessarySimpa false
set_option maxHeartbeats 40000000
set_option maxRecDepth 20000
namespace Go.Proofs.YtoljnakoodalpaaGreat
open Go.Vc Go.Dec Go.Win
theorem W5 (b c r:Int) (h:W7 b c=some r):B2 Tryz.prog 63 [iI b,iI c] [] (iI r) []:=
 C0 Tryz.func63 Tryz.call63 1 (eN (eN (kC h fun a h=>An (oD a) (eN (cD h (fun d h=>lf) (fun d h=>lf))))))
theorem A4X (c d r:Int) (h:A4x c d=some r):B2 Tryz.prog 62 [iI c,iI d] [] (iI r) []:=
 C0 Tryz.func62 Tryz.call62 1 (eN (eN (bC h fun a b h=>cK (An (cW (W5 c d a b) zz) (r1 lf)))))
theorem C4N (a:List Int) (r:V5) (h:C3v a=r):B2 Tryz.prog 15 [lF 1 (List.map (eI .i64) a)] [] (.ptr 0 0) [[lF 1 (List.map (eI .i64) r.L),iI r.At]]:=
 C0 Tryz.func15 Tryz.call15 1 lf
theorem C6l (i j r:Int) (h:B3F i j=some r):B2 Tryz.prog 78 [iI i,iI j] [] (iI r) []:=
 C0 Tryz.func78 Tryz.call78 1 (eN (eN (An (by decide) (eN (bC h fun b c h=>cK (An (cW (W5 i 8 b c) zz) (r1 (eN (eN (eN (cD h (fun l h=>eN (bC h fun d e h=>cK (An (cW (W5 (A2 (Int.tdiv i 8)) (A2 ((A2 (2*j))+2)) d e) zz) (r1 lf)))) (fun l h=>eN (eX (some (⟨Bool,fun a=>[tM 5 (iI (A2 (Int.tdiv i 8))),tM 17 (.sb a)],fun a=>A55 i a=some r,fun _=>0⟩,1000000)) (An (cD h (fun k h=>jT (b==1) (An h (r2 (An (D3d k) trivial)))) (fun k h=>eN (jT (b==2) (An h zz)))) (fun a h=>cD h (fun m h=>eN (bC h fun f g h=>cK (An (cW (W5 (A2 (Int.tdiv i 8)) 3 f g) zz) (r1 lf)))) (fun m h=>lf))))))))))))))))
theorem C2p (j r:Int) (h:A98 j=some r):B2 Tryz.prog 79 [iI j] [] (iI r) []:=
 C0 Tryz.func79 Tryz.call79 1 (eN (eN (An (by decide) (eN (bC h fun a b h=>cK (An (cW (W5 j 8 a b) zz) (r1 (eN (cD h (fun k h=>eN (bC h fun c d h=>cK (An (cW (W5 (A2 (Int.tdiv j 8)) 8193 c d) zz) (r1 lf)))) (fun k h=>eN (cD h (fun l h=>eN (bC h fun e f h=>cK (An (cW (W5 (A2 (Int.tdiv j 8)) 2 e f) zz) (r1 lf)))) (fun l h=>eN (bC h fun g i h=>cK (An (cW (W5 (A2 (Int.tdiv j 8)) 13 g i) zz) (r1 lf)))))))))))))))
theorem C2o (n:List A9) (o p:Int) (r:List A9) (h:A97 n o p=some r):B2 Tryz.prog 16 [lF 2 (List.map C7 n),iI o,iI p] [] (lF 2 (List.map C7 r)) []:=
 C0 Tryz.func16 Tryz.call16 1 (eN (eN (eN (eN (oC h fun v h=>eX (Sum.inl ⟨((List A9)×Int×Int)×Nat,fun q=>[tM 0 (lF 2 (List.map C7 n)),tM 1 (iI o),tM 2 (iI p),tM 7 (.own 1024),tM 8 (iI q.1.2.1),tM 9 (iI q.1.2.2),(.tok 1024, .tok 71 2 (List.map C7 q.1.1))],fun q=>M5 (fun (s:((List A9)×Int×Int))=>A43 n o p s.1 s.2.1 s.2.2) q.2 q.1=some r,fun q=>q.2⟩) (An (eX [(1024,none)] (eX [] (eX (([],0,0),v) (An h zz)))) (nx fun ⟨d,a,b⟩ m1 x1 h hl1 hr1=>eN (uO [tM 0 (lF 2 (List.map C7 n)),tM 1 (iI o),tM 2 (iI p),tM 7 (.own 1024),tM 8 (iI a),tM 9 (iI b),tM 18 (.sb ((decide (b<(n.length:Int)))&&(decide (b<p)))),(.tok 1024, .tok 71 2 (List.map C7 d))] 1000000 (An (eX [iI (n.length:Int)] (An (lenS C7 n) (An (fun t=>jV ((r1 (fr (r4 (An (D3d (aR t rfl)) zz)))))) (fun t=>jV ((r1 (fr (r4 (An (D3d (aL t)) zz))))))))) (fun _ _=>cD h (fun u h=>eN (bC h fun e j h=>bC h fun c k h=>eX [iI e.T,iI e.V] (An (D5 C7 j) (cK (An (cW (C6l e.T o c k) zz) (r1 (eN (bC h fun f l h=>bC h fun g m h=>kC h fun i h=>eX [iI f.T,iI f.V] (An (D5 C7 l) (cK (An (cW (C2p f.V g m) zz) (r1 (An (kA (oD i)) (eN (eX [(1024,some 1000266)] (eX [] (eX (((d++ [(A9.mk (A2 (a+c)) g)]),(A2 (a+c)),(A2 (b+1))),m1) (An (hl1 ((d++ [(A9.mk (A2 (a+c)) g)]),(A2 (a+c)),(A2 (b+1))) (oJ h).symm) (An (D3u m1) (r1 (fr (r4 (An lE trivial))))))))))))))))))))))) (fun u h=>have h:=J2 h hr1;lf)))))))))))
theorem B7n (e:V5) (f:Int) (r:Int×V5) (h:A44 e f=some r):B2 Tryz.prog 18 [.ptr 0 0,iI f] [[lF 1 (List.map (eI .i64) e.L),iI e.At]] (iI r.1) [[lF 1 (List.map (eI .i64) r.2.L),iI r.2.At]]:=
 C0 Tryz.func18 Tryz.call18 2 (eN (eN (eX [iI (e.L.length:Int)] (An (lenS (eI .i64) e.L) (cD h (fun g h=>lf) (fun g h=>eN (eN (bC h fun a d h=>bC h fun b c h=>eX [iI a] (An (D5 (eI .i64) d) (cK (An (cW (W5 a f b c) zz) (r1 lf))))))))))))
end Go.Proofs.YtoljnakoodalpaaGreat
