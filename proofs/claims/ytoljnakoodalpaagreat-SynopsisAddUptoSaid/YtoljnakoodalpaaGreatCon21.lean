/- The contracts: each function of the program does what its function on plain data says. Made by program. -/
import Derived.Test.YtoljnakoodalpaaGreatCoh
import Derived.Test.YtoljnakoodalpaaGreatCon3
import Derived.Test.YtoljnakoodalpaaGreatCon19
import Derived.Test.YtoljnakoodalpaaGreatCon17
set_option linter.unusedVariables false
set_option linter.unusedSimpArgs false
set_option linter.unnecessarySimpa false
set_option maxHeartbeats 40000000
set_option maxRecDepth 20000
namespace Go.Proofs.YtoljnakoodalpaaGreat
open Go.Vc Go.Dec Go.Win
theorem B63 (b:Int) (r:Bool) (h:A0S b=r):A6 Tryz.prog 287 [iI b] [] (.sb r) []:=
 C0 Tryz.func287 Tryz.call287 1 (eN (eN (eN (An (fun a=>(by cases h;exact (An (D0Z (aR a rfl)) trivial))) (fun a=>(by cases h;exact (An (D0Z (aL a)) trivial)))))))
theorem A9M (c:D9) (r:Int) (h:A2q c=some r):A6 Tryz.prog 164 [.agg (I4 c)] [] (iI r) []:=
 C0 Tryz.func164 Tryz.call164 1 (eN (eN (bC h fun a b h=>eN (cK (An (cW (B4b c.Ab c.W c.K c.Cap c.Now a b) zz) (r1 (An (fun d=>cK (An (cW (B63 c.Be _ rfl) zz) (r1 (An (fun e=>have h:=cT (oR d e) h;lf) (fun e=>have h:=cF (oR d e) h;lf))))) (fun d=>have h:=cT (oL d) h;lf))))))))
theorem C0x (i j:D9) (r:Bool) (h:A4N i j=some r):A6 Tryz.prog 53 [.agg (I4 i), .agg (I4 j)] [] (.sb r) []:=
 C0 Tryz.func53 Tryz.call53 1 (eN (eN (bC h fun a b h=>eN (An (fun c=>An (fun d=>An (fun e=>An (fun f=>An (fun g=>cK (An (cW (B39 i.Ab j.Ab a (G1 (aR (aR (aR (aR c d) e) f) g) b)) zz) (r1 (by (first|cases h|rw [<-oJ h]);exact (An (D0Z (aR (aR (aR (aR (aR c d) e) f) g) rfl)) trivial))))) (fun g=>(by (first|cases h|rw [<-oJ h]);exact (An (D0Z (aL (aR (aR (aR (aR c d) e) f) g))) trivial)))) (fun f=>(by (first|cases h|rw [<-oJ h]);exact (An (D0Z (aL (aL (aR (aR (aR c d) e) f)))) trivial)))) (fun e=>(by (first|cases h|rw [<-oJ h]);exact (An (D0Z (aL (aL (aL (aR (aR c d) e))))) trivial)))) (fun d=>(by (first|cases h|rw [<-oJ h]);exact (An (D0Z (aL (aL (aL (aL (aR c d)))))) trivial)))) (fun c=>(by (first|cases h|rw [<-oJ h]);exact (An (D0Z (aL (aL (aL (aL (aL c)))))) trivial)))))))
theorem B38 (t:List A3) (u o s:Int) (r:List A3) (h:A22 t u o s=some r):A6 Tryz.prog 165 [lF 2 (List.map B0 t),iI u,iI o,iI s] [] (lF 2 (List.map B0 r)) []:=
 C0 Tryz.func165 Tryz.call165 1 (eN (eN (bC h fun c g h=>bC h fun a e h=>bC h fun b f h=>uO [tM 0 (lF 2 (List.map B0 t)),tM 1 (iI u),tM 2 (iI o),tM 3 (iI s),tM 42 (.sb ((((((!c)||(decide (s<0)))||(decide (s>1024)))||(!(F4 o)))||(decide (o<a)))||((decide (s>0))&&(decide ((A2 (b+s))>1073741824)))))] 1000000 (An (cK (An (cW (A5A t u c g) zz) (r1 (An (fun l=>An (fun m=>An (fun n=>cK (An (cW (P2 o _ rfl) zz) (r1 (An (fun p=>cK (An (cW (B4a t a (G1 (nE (oR (oR (oR l m) n) p)) e)) zz) (r1 (An (fun v=>An (fun w=>cK (An (cW (A1a t b (G1 (aR (nE (oR (oR (oR (oR l m) n) p) v)) w) f)) zz) (r1 (jV ((r1 (fr (r3 (An (D0Z (oR (oR (oR (oR (oR l m) n) p) v) (aR w rfl))) trivial))))))))) (fun w=>jV ((r1 (fr (r3 (An (D0Z (oR (oR (oR (oR (oR l m) n) p) v) (aL w))) trivial))))))) (fun v=>jV ((r1 (fr (r3 (An (D0Z (oL (oR (oR (oR (oR l m) n) p) v))) trivial)))))))))) (fun p=>jV ((r1 (fr (r3 (An (D0Z (oL (oL (oR (oR (oR l m) n) p)))) trivial)))))))))) (fun n=>jV ((r1 (fr (r3 (An (D0Z (oL (oL (oL (oR (oR l m) n))))) trivial))))))) (fun m=>jV ((r1 (fr (r3 (An (D0Z (oL (oL (oL (oL (oR l m)))))) trivial))))))) (fun l=>jV ((r1 (fr (r3 (An (D0Z (oL (oL (oL (oL (oL l)))))) trivial)))))))))) (fun _ _=>cD h (fun x h=>lf) (fun x h=>lO h (fun q=>[tM 0 (lF 2 (List.map B0 q.1)),tM 1 (iI u),tM 2 (iI o),tM 3 (iI q.2)]) fun z h=>An (jT (_,z) (An h zz)) (nx fun ⟨d,i⟩ m1 x1 h hl1 hr1=>eN (cD h (fun y h=>eN (bC h fun j k h=>cK (An (cW (B5J d u o j k) zz) (r1 (eN (jR h hl1 zz)))))) (fun y h=>have h:=G3 h hr1;lf)))))))))
theorem C2N (g:D9) (k:Int) (r:D9×Int) (h:B07 g k=some r):A6 Tryz.prog 40 [.agg (I4 g),iI k] [] (.tup [.agg (I4 r.1),iI r.2]) []:=
 C0 Tryz.func40 Tryz.call40 1 (eN (eN (bC h fun a b h=>cK (An (cW (A9M g a b) zz) (r1 (eN (cD h (fun l h=>lf) (fun l h=>eN (eN (An (fun i=>An (fun j=>have h:=cT (oR i j) h;lf) (fun j=>have h:=cF (oR i j) h;eN (bC h fun c d h=>cK (An (cW (A1a g.Ab c d) zz) (r1 (cD h (fun m h=>lf) (fun m h=>eN (bC h fun e f h=>cK (An (cW (B38 g.Ab g.K g.Now k e f) zz) (r1 lf)))))))))) (fun i=>have h:=cT (oL i) h;lf)))))))))))
end Go.Proofs.YtoljnakoodalpaaGreat
