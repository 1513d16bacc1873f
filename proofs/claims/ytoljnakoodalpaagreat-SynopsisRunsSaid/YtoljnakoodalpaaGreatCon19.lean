/- The contracts: each function of the program does what its function on plain data says. Made by program. -/
import Derived.Test.YtoljnakoodalpaaGreatCoh
import Derived.Test.YtoljnakoodalpaaGreatCon2
set_option linter.unusedVariables false
set_option linter.unusedSimpArgs false
set_option linter.unnecessarySimpa false
set_option maxHeartbeats 40000000
set_option maxRecDepth 20000
namespace Go.Proofs.YtoljnakoodalpaaGreat
open Go.Vc Go.Dec Go.Win
theorem C2v (f g:C4) (r:Bool) (h:A5f f g=some r):B2 Tryz.prog 51 [.agg (I8 f), .agg (I8 g)] [] (.sb r) []:=
 C0 Tryz.func51 Tryz.call51 1 (eN (eN (bC h fun a b h=>eN (An (fun c=>An (fun d=>An (fun e=>cK (An (cW (A9I f.Ar g.Ar a (I1 (aR (aR c d) e) b)) zz) (r1 (by (first|cases h|rw [<-oJ h]);exact (An (D3d (aR (aR (aR c d) e) rfl)) trivial))))) (fun e=>(by (first|cases h|rw [<-oJ h]);exact (An (D3d (aL (aR (aR c d) e))) trivial)))) (fun d=>(by (first|cases h|rw [<-oJ h]);exact (An (D3d (aL (aL (aR c d)))) trivial)))) (fun c=>(by (first|cases h|rw [<-oJ h]);exact (An (D3d (aL (aL (aL c)))) trivial)))))))
end Go.Proofs.YtoljnakoodalpaaGreat
