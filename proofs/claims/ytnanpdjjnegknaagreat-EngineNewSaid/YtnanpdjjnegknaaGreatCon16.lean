/- The contracts: each function of the program does what its function on plain data says. Made by program. -/
import Derived.Test.YtnanpdjjnegknaaGreatCoh
import Derived.Test.YtnanpdjjnegknaaGreatCon1
import Derived.Test.YtnanpdjjnegknaaGreatCon9
import Derived.Test.YtnanpdjjnegknaaGreatCon10
import Derived.Test.YtnanpdjjnegknaaGreatCon11
import Derived.Test.YtnanpdjjnegknaaGreatCon13
import Derived.Test.YtnanpdjjnegknaaGreatCon14
import Derived.Test.YtnanpdjjnegknaaGreatCon15
set_option linter.unusedVariables false
set_option linter.unusedSimpArgs false
set_option linter.unnecessarySimpa false
set_option maxHeartbeats 40000000
set_option maxRecDepth 20000
namespace Go.Proofs.YtnanpdjjnegknaaGreat
open Go.Vc Go.Dec Go.Win
theorem B4o (c:Int) (r:G7×Int) (h:A3U c=r):A4 Tryz.prog 15 [iI c] [] (.tup [.agg [iI r.1.Now,iI r.1.Bd,lF 58 (List.map A9 r.1.Ah)],iI r.2]) []:=
 C0 Tryz.func15 Tryz.call15 1 (eN (eN (eN (An (fun a=>An (fun b=>have h:=cT (oR a b) h;lf) (fun b=>have h:=cF (oR a b) h;lf)) (fun a=>have h:=cT (oL a) h;lf)))))
theorem B80 (j:R5) (r:Bool) (h:B5C j=r):A4 Tryz.prog 56 [.agg (W9 j)] [] (.sb r) []:=
 C0 Tryz.func56 Tryz.call56 1 (eN (eN (eN (eN (eX (some (⟨Int×E9×Int×Int×(List Int)×R9×(List Int),fun q=>[tM 1 (.ptr 1 0),tB 1 (iI j.Op::(iI q.1::(List.append (K7 q.2.1) (iI q.2.2.1::(iI q.2.2.2.1::(lF 1 (List.map (eI .i64) q.2.2.2.2.1)::(iI q.2.2.2.2.2.1.Op::(iI q.2.2.2.2.2.1.A::(iI q.2.2.2.2.2.1.B::(lF 1 (List.map (eI .u8) q.2.2.2.2.2.2):: []))))))))))],fun q=>U6 q.1 q.2.1 q.2.2.1 q.2.2.2.1 q.2.2.2.2.1 q.2.2.2.2.2.1 q.2.2.2.2.2.2=r,fun _=>0⟩,1000000)) (An (cD h (fun t h=>eN (jT (0,(E9.mk 0 0 0 0 0 0 0 0),j.T,j.V,j.Az,j.Bg,j.Ax) (An h zz))) (fun t h=>eN (eN (cD h (fun u h=>eN (jT (0,j.Ao,j.T,j.V,j.Az,j.Bg,j.Ax) (An h zz))) (fun u h=>eN (eN (cD h (fun v h=>eN (jT (j.ID,j.Ao,0,j.V,j.Az,j.Bg,j.Ax) (An h zz))) (fun v h=>eN (eN (cD h (fun w h=>eN (jT (0,j.Ao,0,0,[],j.Bg,j.Ax) (An h zz))) (fun w h=>eN (eN (cD h (fun x h=>eN (jT (0,j.Ao,j.T,j.V,j.Az,(R9.mk 0 0 0),j.Ax) (An h zz))) (fun x h=>eN (eX (some (⟨Bool,fun c=>[tM 1 (.ptr 1 0),tM 4 (iI j.Op),tM 27 (.sb c),tB 1 (W9 j)],fun c=>A5W j c=r,fun _=>0⟩,1000000)) (An (cD h (fun s h=>jT (j.Op==6) (An h (r2 (An (D1S s) zz)))) (fun s h=>eN (jT (j.Op==7) (An h zz)))) (fun c h=>eN (cD h (fun y h=>jT (j.ID,j.Ao,j.T,j.V,j.Az,j.Bg,j.Ax) (An h zz)) (fun y h=>eN (cD h (fun z h=>eN (jT (j.ID,j.Ao,j.T,j.V,j.Az,j.Bg,[]) (An h zz))) (fun z h=>lf))))))))))))))))))))) (fun ⟨i,e,f,g,a,d,b⟩ h=>eN (eN (An (fun n=>An (fun k=>An (fun l=>An (fun m=>eX [iI (a.length:Int)] (An (E0 (eI .i64) a) (An (fun o=>An (fun p=>eX [iI (b.length:Int)] (An (E0 (eI .u8) b) (by cases h;exact (An (D1S (aR (aR (aR (aR (aR (aR n k) l) m) o) p) rfl)) trivial)))) (fun p=>(by cases h;exact (An (D1S (aL (aR (aR (aR (aR (aR n k) l) m) o) p))) trivial)))) (fun o=>(by cases h;exact (An (D1S (aL (aL (aR (aR (aR (aR n k) l) m) o)))) trivial)))))) (fun m=>(by cases h;exact (An (D1S (aL (aL (aL (aR (aR (aR n k) l) m))))) trivial)))) (fun l=>(by cases h;exact (An (D1S (aL (aL (aL (aL (aR (aR n k) l)))))) trivial)))) (fun k=>(by cases h;exact (An (D1S (aL (aL (aL (aL (aL (aR n k))))))) trivial)))) (fun n=>(by cases h;exact (An (D1S (aL (aL (aL (aL (aL (aL n))))))) trivial))))))))))))
theorem B2g (e:E4) (r:Int×E4) (h:Y8 e=some r):A4 Tryz.prog 57 [.ptr 0 0] [(I0 e)] (iI r.1) [(I0 r.2)]:=
 C0 Tryz.func57 Tryz.call57 2 (eN (eN (eN (eN (An (fun f=>An (fun g=>have h:=cT (oR f g) h;lf) (fun g=>have h:=cF (oR f g) h;eN (bC h fun a d h=>cK (An (cW (C0v e.command_.Ao e.Ap.Now a d) zz) (r1 (eN (cD h (fun i h=>eN (cK (An (cW (A1m e.command_.Ao _ rfl) zz) (r1 lf)))) (fun i h=>eN (bC h fun b c h=>cK (An (cW (B64 e.Ap.Ah e.Ap.Bd (D1.mk e.command_.ID a.1) b c) zz) (r1 (eN (cD h (fun j h=>lf) (fun j h=>lf)))))))))))))) (fun f=>have h:=cT (oL f) h;lf))))))
theorem B4P (c:E4) (r:Int×E4) (h:A8Q c=some r):A4 Tryz.prog 58 [.ptr 0 0] [(I0 c)] (iI r.1) [(I0 r.2)]:=
 C0 Tryz.func58 Tryz.call58 2 (eN (eN (bC h fun a b h=>cK (An (cW (B65 c.Ap.Ah c.command_.ID a b) zz) (r1 (eN (cD h (fun d h=>lf) (fun d h=>lf))))))))
theorem B4T (o:E4) (r:Int×E4) (h:A8T o=some r):A4 Tryz.prog 59 [.ptr 0 0] [(I0 o)] (iI r.1) [(I0 r.2)]:=
 C0 Tryz.func59 Tryz.call59 2 (eN (eN (eN (eN (An (fun p=>An (fun s=>have h:=cT (oR p s) h;lf) (fun s=>have h:=cF (oR p s) h;eN (kC h fun f h=>An (kA (oD f)) (eN (eX [iI ((([]:List D1)++o.Ap.Ah).length:Int)] (An B1T (lO h (fun q=>[tM 0 (.ptr 0 0),tM 3 (iI o.command_.T),tM 4 (.own 776),tM 32 (iI ((([]:List D1)++o.Ap.Ah).length:Int)),tM 33 (iI q.2),tB 0 (I0 o),(.tok 776, .tok 115 58 (List.map A9 q.1))]) fun v h=>An (jT (_,v) (An h (r6 (fr (V7 (fr (r3 (fr (r7 (fr (r4 (fr (fr (An lE trivial)))))))))))))) (nx fun ⟨g,b⟩ m1 x1 h hl1 hr1=>eN (cD h (fun t h=>eN (eN (bC h fun n i h=>bC h fun a j h=>bC h fun k l h=>An (M3 A9 i) (eX (A9 a) (An (M6 A9 j) (cK (An (cW (B5u a.Ac o.command_.T k l) zz) (r1 (eN (cD h (fun u h=>have h:=H8 h hr1;lf) (fun u h=>eN (bC h fun m c h=>bC h fun d e h=>An (M3 A9 c) (eX (A9 d) (An (M6 A9 e) (eN (jR h hl1 (r6 (fr (V7 (fr (r3 (fr (r7 (fr (r4 (fr (fr (An lE trivial)))))))))))))))))))))))))))) (fun t h=>have h:=G6 h hr1;lf)))))))))) (fun p=>have h:=cT (oL p) h;lf))))))
theorem A6m (e:E4) (r:B0×Bool) (h:A4F e=some r):A4 Tryz.prog 121 [.ptr 0 0] [(I0 e)] (.tup [.agg (H1 r.1), .sb r.2]) [(I0 e)]:=
 C0 Tryz.func121 Tryz.call121 2 (eN (eN (bC h fun a b h=>cK (An (cW (A3g e.Ap.Ah e.command_.ID a b) zz) (r1 (eN (cD h (fun f h=>lf) (fun f h=>eN (bC h fun c d h=>eX (A9 c) (An (C3 A9 d) lf))))))))))
theorem B5k (g:E4) (r:Int×E4) (h:B0m g=some r):A4 Tryz.prog 60 [.ptr 0 0] [(I0 g)] (iI r.1) [(I0 r.2)]:=
 C0 Tryz.func60 Tryz.call60 2 (eN (eN (bC h fun b f h=>eX (CK.gen [(0,0,34)] none _ _ none) (An (A1.wk (A6m g b f) zz) (An rfl (An rfl (eN (cD h (fun i h=>lf) (fun i h=>eN (cD h (fun j h=>lf) (fun j h=>eN (bC h fun a c h=>cK (An (cW (C0t b.1 g.command_.V g.command_.Az a c) zz) (r1 (eN (cD h (fun k h=>lf) (fun k h=>eN (bC h fun d e h=>cK (An (cW (B5r g.Ap.Ah (D1.mk g.command_.ID a.1) d e) zz) (r1 (eN (cD h (fun l h=>lf) (fun l h=>lf)))))))))))))))))))))))
theorem B5l (e:E4) (r:Int×E4) (h:B0n e=some r):A4 Tryz.prog 61 [.ptr 0 0] [(I0 e)] (iI r.1) [(I0 r.2)]:=
 C0 Tryz.func61 Tryz.call61 2 (eN (eN (bC h fun a b h=>eX (CK.gen [(0,0,34)] none _ _ none) (An (A1.wk (A6m e a b) zz) (An rfl (An rfl (eN (cD h (fun f h=>lf) (fun f h=>eN (bC h fun c d h=>cK (An (cW (C0u a.1 e.command_.Bg c d) zz) (r1 lf))))))))))))
theorem B4Q (c:E4) (r:Int×E4) (h:A1T c=some r):A4 Tryz.prog 62 [.ptr 0 0] [(I0 c)] (iI r.1) [(I0 r.2)]:=
 C0 Tryz.func62 Tryz.call62 2 (eN (eN (bC h fun a b h=>cK (An (cW (C0q c.Ap.Ah a b) zz) (r1 lf)))))
theorem B4S (c:E4) (r:Int×E4) (h:A8S c=some r):A4 Tryz.prog 63 [.ptr 0 0] [(I0 c)] (iI r.1) [(I0 r.2)]:=
 C0 Tryz.func63 Tryz.call63 2 (eN (eN (bC h fun a b h=>cK (An (cW (B67 c.Ap a b) zz) (r1 lf)))))
theorem B4R (c:E4) (r:Int×E4) (h:A8R c=some r):A4 Tryz.prog 64 [.ptr 0 0] [(I0 c)] (iI r.1) [(I0 r.2)]:=
 C0 Tryz.func64 Tryz.call64 2 (eN (eN (bC h fun a b h=>cK (An (cW (B66 c.command_.Ax a b) zz) (r1 (eN (eN (cD h (fun d h=>lf) (fun d h=>lf)))))))))
end Go.Proofs.YtnanpdjjnegknaaGreat
