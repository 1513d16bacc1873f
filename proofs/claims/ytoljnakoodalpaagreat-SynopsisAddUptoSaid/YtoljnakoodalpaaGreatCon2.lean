/- The contracts: each function of the program does what its function on plain data says. Made by program. -/
import Derived.Test.YtoljnakoodalpaaGreatCoh
import Derived.Test.YtoljnakoodalpaaGreatCon1
set_option linter.unusedVariables false
set_option linter.unusedSimpArgs false
set_option linter.unnecessarySimpa false
set_option maxHeartbeats 40000000
set_option maxRecDepth 20000
namespace Go.Proofs.YtoljnakoodalpaaGreat
open Go.Vc Go.Dec Go.Win
theorem B1X (f g i:Int) (r:Bool) (h:A5q f g i=r):A6 Tryz.prog 198 [iI f,iI g,iI i] [] (.sb r) []:=
 C0 Tryz.func198 Tryz.call198 1 (eN (eN (eN (An (fun a=>An (fun b=>An (fun c=>An (fun d=>An (fun e=>(by cases h;exact (An (D0Z (aR (aR (aR (aR (aR a b) c) d) e) rfl)) trivial))) (fun e=>(by cases h;exact (An (D0Z (aL (aR (aR (aR (aR a b) c) d) e))) trivial)))) (fun d=>(by cases h;exact (An (D0Z (aL (aL (aR (aR (aR a b) c) d)))) trivial)))) (fun c=>(by cases h;exact (An (D0Z (aL (aL (aL (aR (aR a b) c))))) trivial)))) (fun b=>(by cases h;exact (An (D0Z (aL (aL (aL (aL (aR a b)))))) trivial)))) (fun a=>(by cases h;exact (An (D0Z (aL (aL (aL (aL (aL a)))))) trivial)))))))
theorem B9B (a b c:Int) (r:C8×Int) (h:A4G a b c=r):A6 Tryz.prog 67 [iI a,iI b,iI c] [] (.tup [.agg (H4 r.1),iI r.2]) []:=
 C0 Tryz.func67 Tryz.call67 1 (eN (eN (cK (An (cW (B1X a b c _ rfl) zz) (r1 (cD h (fun d h=>lf) (fun d h=>lf)))))))
theorem B9y (b:Int) (r:Bool) (h:A86 b=r):A6 Tryz.prog 339 [iI b] [] (.sb r) []:=
 C0 Tryz.func339 Tryz.call339 1 (eN (eN (eN (An (fun a=>(by cases h;exact (An (D0Z (aR a rfl)) trivial))) (fun a=>(by cases h;exact (An (D0Z (aL a)) trivial)))))))
theorem B9x (f:List B6) (i:Int) (r:Bool) (h:B1B f i=some r):A6 Tryz.prog 261 [lF 2 (List.map C7 f),iI i] [] (.sb r) []:=
 C0 Tryz.func261 Tryz.call261 1 (eN (eN (cK (An (cW (B9y i _ rfl) zz) (r1 (cD h (fun n h=>lf) (fun n h=>eN (eX [iI (f.length:Int)] (An (lenS C7 f) (lO h (fun q=>[tM 0 (lF 2 (List.map C7 f)),tM 1 (iI i),tM 10 (lF 2 (List.map C7 f)),tM 11 (iI (f.length:Int)),tM 12 (iI q)]) fun s h=>An (jT (_,s) (An h zz)) (nx fun b t u h m l=>eN (cD h (fun o h=>eN (bC h fun a e h=>eX [iI a.T,iI a.V] (An (B9 C7 e) (eN (bC h fun c d h=>uO [tM 0 (lF 2 (List.map C7 f)),tM 1 (iI i),tM 10 (lF 2 (List.map C7 f)),tM 11 (iI (f.length:Int)),tM 12 (iI b),tM 40 (.sb (((decide (a.T<0))||(decide (a.T>i)))||((decide (b>0))&&(decide (c.T>a.T)))))] 1000000 (An (An (fun g=>An (fun j=>An (fun k=>eX [iI c.T,iI c.V] (An (B9 C7 (G1 (aR (nE (oR g j)) k) d)) (jV ((r1 (fr (r1 (fr (r2 (An (D0Z (oR (oR g j) (aR k rfl))) trivial)))))))))) (fun k=>jV ((r1 (fr (r1 (fr (r2 (An (D0Z (oR (oR g j) (aL k))) trivial))))))))) (fun j=>jV ((r1 (fr (r1 (fr (r2 (An (D0Z (oL (oR g j))) trivial))))))))) (fun g=>jV ((r1 (fr (r1 (fr (r2 (An (D0Z (oL (oL g))) trivial))))))))) (fun _ _=>cD h (fun p h=>have h:=E6 h l;lf) (fun p h=>eN (jR h m zz))))))))) (fun o h=>have h:=G3 h l;lf)))))))))))))
theorem B0G (b:Int) (r:Bool) (h:A6I b=r):A6 Tryz.prog 126 [iI b] [] (.sb r) []:=
 C0 Tryz.func126 Tryz.call126 1 (eN (eN (eN (An (fun a=>(by cases h;exact (An (D0Z (aR a rfl)) trivial))) (fun a=>(by cases h;exact (An (D0Z (aL a)) trivial)))))))
theorem A8H (f:C8) (r:Int) (h:A0f f=some r):A6 Tryz.prog 125 [.agg (H4 f)] [] (iI r) []:=
 C0 Tryz.func125 Tryz.call125 1 (eN (eN (bC h fun b c h=>eN (cK (An (cW (B1X f.W f.Cap f.Now _ rfl) zz) (r1 (An (fun g=>eX [iI (f.Ar.length:Int)] (An (lenS C7 f.Ar) (An (fun i=>cK (An (cW (B9x f.Ar f.Now b (G1 (nE (oR g i)) c)) zz) (r1 (An (fun l=>have h:=cT (oR (oR g i) l) h;lf) (fun l=>have h:=cF (oR (oR g i) l) h;eN (eX [iI (f.Ar.length:Int)] (An (lenS C7 f.Ar) (lO h (fun q=>[tM 1 (.ptr 1 0),tM 30 (lF 2 (List.map C7 f.Ar)),tM 31 (iI (f.Ar.length:Int)),tM 32 (iI q),tB 1 (H4 f)]) fun p h=>An (jT (_,p) (An h zz)) (nx fun d s t h n j=>eN (cD h (fun o h=>eN (bC h fun a e h=>eX [iI a.T,iI a.V] (An (B9 C7 e) (eN (eN (cK (An (cW (A0n f.Now f.W a.T _ rfl) zz) (r1 (An (fun k=>cK (An (cW (B0G a.V _ rfl) zz) (r1 (An (fun m=>have h:=cT (oR k m) h;have h:=E6 h j;lf) (fun m=>have h:=cF (oR k m) h;eN (jR h n zz)))))) (fun k=>have h:=cT (oL k) h;have h:=E6 h j;lf)))))))))) (fun o h=>have h:=G3 h j;lf))))))))))) (fun i=>have h:=cT (oL (oR g i)) h;lf)))) (fun g=>have h:=cT (oL (oL g)) h;lf))))))))
theorem C0s (e:C8) (f:Int) (r:C8×Int) (h:A9e e f=some r):A6 Tryz.prog 25 [.agg (H4 e),iI f] [] (.tup [.agg (H4 r.1),iI r.2]) []:=
 C0 Tryz.func25 Tryz.call25 1 (eN (eN (bC h fun b c h=>cK (An (cW (A8H e b c) zz) (r1 (eN (cD h (fun g h=>lf) (fun g h=>eN (cK (An (cW (B0G f _ rfl) zz) (r1 (cD h (fun i h=>lf) (fun i h=>eN (eX [iI (e.Ar.length:Int)] (An (lenS C7 e.Ar) (cD h (fun j h=>lf) (fun j h=>eN (eX [iI (e.Ar.length:Int)] (An (lenS C7 e.Ar) (eN (kC h fun d h=>kC h fun a h=>An (kA (oD d)) (An (kF (oD a)) (by (first|cases h|rw [<-oJ h]);exact eN (r3 (An ff (An lE zz))))))))))))))))))))))))))
end Go.Proofs.YtoljnakoodalpaaGreat
