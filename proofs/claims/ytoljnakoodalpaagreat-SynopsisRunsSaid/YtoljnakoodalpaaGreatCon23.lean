/- The contracts: each function of the program does what its function on plain data says. Made by program. -/
import Derived.Test.YtoljnakoodalpaaGreatCoh
import Derived.Test.YtoljnakoodalpaaGreatCon2
set_option linter.unusedVariables false
set_option linter.unusedSimpArgs false
set_option linter.unnecessarySimpa false
set_option maxHeartbeats 40000000
set_option maxRecDepth 20000
namespace Go.Proofs.YtoljnakoodalpaaGreat
open Go.Vc Go.Dec Go.Win
theorem C2C (i j:C2) (r:Bool) (h:A5n i j=some r):B2 Tryz.prog 55 [.agg (H7 i), .agg (H7 j)] [] (.sb r) []:=
 C0 Tryz.func55 Tryz.call55 1 (eN (eN (bC h fun a b h=>eN (An (fun c=>An (fun d=>An (fun e=>An (fun f=>An (fun g=>cK (An (cW (A9J i.Av j.Av a (I1 (aR (aR (aR (aR c d) e) f) g) b)) zz) (r1 (by (first|cases h|rw [<-oJ h]);exact (An (D3d (aR (aR (aR (aR (aR c d) e) f) g) rfl)) trivial))))) (fun g=>(by (first|cases h|rw [<-oJ h]);exact (An (D3d (aL (aR (aR (aR (aR c d) e) f) g))) trivial)))) (fun f=>(by (first|cases h|rw [<-oJ h]);exact (An (D3d (aL (aL (aR (aR (aR c d) e) f)))) trivial)))) (fun e=>(by (first|cases h|rw [<-oJ h]);exact (An (D3d (aL (aL (aL (aR (aR c d) e))))) trivial)))) (fun d=>(by (first|cases h|rw [<-oJ h]);exact (An (D3d (aL (aL (aL (aL (aR c d)))))) trivial)))) (fun c=>(by (first|cases h|rw [<-oJ h]);exact (An (D3d (aL (aL (aL (aL (aL c)))))) trivial)))))))
end Go.Proofs.YtoljnakoodalpaaGreat
