/- The contracts: each function of the program does what its function on plain data says. Made by program. -/
import Derived.Test.YtoljnakoodalpaaGreatCoh
import Derived.Test.YtoljnakoodalpaaGreatCon2
import Derived.Test.YtoljnakoodalpaaGreatCon3
import Derived.Test.YtoljnakoodalpaaGreatCon19
set_option linter.unusedVariables false
set_option linter.unusedSimpArgs false
set_option linter.unnecessarySimpa false
set_option maxHeartbeats 40000000
set_option maxRecDepth 20000
namespace Go.Proofs.YtoljnakoodalpaaGreat
open Go.Vc Go.Dec Go.Win
theorem B86 (b:Int) (r:Bool) (h:A1K b=r):A5 Tryz.prog 287 [iI b] [] (.sb r) []:=
 C0 Tryz.func287 Tryz.call287 1 (eN (eN (eN (An (fun a=>(by cases h;exact (An (D4y (aR a rfl)) trivial))) (fun a=>(by cases h;exact (An (D4y (aL a)) trivial)))))))
theorem B1e (c:E2) (r:Int) (h:A3h c=some r):A5 Tryz.prog 164 [.agg (O2 c)] [] (iI r) []:=
 C0 Tryz.func164 Tryz.call164 1 (eN (eN (bC h fun a b h=>eN (cK (An (cW (B50 c.Ac c.W c.K c.Cap c.Now a b) zz) (r1 (An (fun d=>cK (An (cW (B86 c.Bj _ rfl) zz) (r1 (An (fun e=>have h:=cT (oR d e) h;lf) (fun e=>have h:=cF (oR d e) h;lf))))) (fun d=>have h:=cT (oL d) h;lf))))))))
theorem C2Z (i j:E2) (r:Bool) (h:A5w i j=some r):A5 Tryz.prog 53 [.agg (O2 i), .agg (O2 j)] [] (.sb r) []:=
 C0 Tryz.func53 Tryz.call53 1 (eN (eN (bC h fun a b h=>eN (An (fun c=>An (fun d=>An (fun e=>An (fun f=>An (fun g=>cK (An (cW (B5Z i.Ac j.Ac a (I4 (aR (aR (aR (aR c d) e) f) g) b)) zz) (r1 (by (first|cases h|rw [<-oJ h]);exact (An (D4y (aR (aR (aR (aR (aR c d) e) f) g) rfl)) trivial))))) (fun g=>(by (first|cases h|rw [<-oJ h]);exact (An (D4y (aL (aR (aR (aR (aR c d) e) f) g))) trivial)))) (fun f=>(by (first|cases h|rw [<-oJ h]);exact (An (D4y (aL (aL (aR (aR (aR c d) e) f)))) trivial)))) (fun e=>(by (first|cases h|rw [<-oJ h]);exact (An (D4y (aL (aL (aL (aR (aR c d) e))))) trivial)))) (fun d=>(by (first|cases h|rw [<-oJ h]);exact (An (D4y (aL (aL (aL (aL (aR c d)))))) trivial)))) (fun c=>(by (first|cases h|rw [<-oJ h]);exact (An (D4y (aL (aL (aL (aL (aL c)))))) trivial)))))))
theorem C5t (e:E2) (r:B4×Int) (h:B2H e=some r):A5 Tryz.prog 113 [.agg (O2 e)] [] (.tup [.agg (H9 r.1),iI r.2]) []:=
 C0 Tryz.func113 Tryz.call113 1 (eN (eN (bC h fun a b h=>cK (An (cW (B1e e a b) zz) (r1 (eN (cD h (fun f h=>lf) (fun f h=>eN (bC h fun c d h=>cK (An (cW (B5m e.Ac c d) zz) (r1 lf)))))))))))
end Go.Proofs.YtoljnakoodalpaaGreat
