/- The contracts: each function of the program does what its function on plain data says. Made by program. -/
import Derived.Test.YtoljnakoodalpaaGreatCoh
import Derived.Test.YtoljnakoodalpaaGreatCon2
import Derived.Test.YtoljnakoodalpaaGreatCon3
import Derived.Test.YtoljnakoodalpaaGreatCon19
set_option linter.unusedVariables false
set_option linter.unusedSimpArgs false
set_option linter.unnecessarySimpa false
set_option maxHeartbeats 40000000
set_option maxRecDepth 20000
namespace Go.Proofs.YtoljnakoodalpaaGreat
open Go.Vc Go.Dec Go.Win
theorem B1d (c:D6) (r:Int) (h:A3g c=some r):A5 Tryz.prog 161 [.agg (M9 c)] [] (iI r) []:=
 C0 Tryz.func161 Tryz.call161 1 (eN (eN (bC h fun a b h=>cK (An (cW (B50 c.Ac c.W c.K c.Cap c.Now a b) zz) (r1 (cD h (fun d h=>lf) (fun d h=>lf)))))))
theorem C2Y (g i:D6) (r:Bool) (h:A5v g i=some r):A5 Tryz.prog 52 [.agg (M9 g), .agg (M9 i)] [] (.sb r) []:=
 C0 Tryz.func52 Tryz.call52 1 (eN (eN (bC h fun a b h=>eN (An (fun c=>An (fun d=>An (fun e=>An (fun f=>cK (An (cW (B5Z g.Ac i.Ac a (I4 (aR (aR (aR c d) e) f) b)) zz) (r1 (by (first|cases h|rw [<-oJ h]);exact (An (D4y (aR (aR (aR (aR c d) e) f) rfl)) trivial))))) (fun f=>(by (first|cases h|rw [<-oJ h]);exact (An (D4y (aL (aR (aR (aR c d) e) f))) trivial)))) (fun e=>(by (first|cases h|rw [<-oJ h]);exact (An (D4y (aL (aL (aR (aR c d) e)))) trivial)))) (fun d=>(by (first|cases h|rw [<-oJ h]);exact (An (D4y (aL (aL (aL (aR c d))))) trivial)))) (fun c=>(by (first|cases h|rw [<-oJ h]);exact (An (D4y (aL (aL (aL (aL c))))) trivial)))))))
theorem C5s (e:D6) (r:B4×Int) (h:B2G e=some r):A5 Tryz.prog 112 [.agg (M9 e)] [] (.tup [.agg (H9 r.1),iI r.2]) []:=
 C0 Tryz.func112 Tryz.call112 1 (eN (eN (bC h fun a b h=>cK (An (cW (B1d e a b) zz) (r1 (eN (cD h (fun f h=>lf) (fun f h=>eN (bC h fun c d h=>cK (An (cW (B5m e.Ac c d) zz) (r1 lf)))))))))))
end Go.Proofs.YtoljnakoodalpaaGreat
