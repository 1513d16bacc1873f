/- The contracts: each function of the program does what its function on plain data says. Made by program. -/
import Derived.Test.YtoljnakoodalpaaGreatCoh
import Derived.Test.YtoljnakoodalpaaGreatCon3
import Derived.Test.YtoljnakoodalpaaGreatCon19
import Derived.Test.YtoljnakoodalpaaGreatCon17
set_option linter.unusedVariables false
set_option linter.unusedSimpArgs false
set_option linter.unnecessarySimpa false
set_option maxHeartbeats 40000000
set_option maxRecDepth 20000
namespace Go.Proofs.YtoljnakoodalpaaGreat
open Go.Vc Go.Dec Go.Win
theorem A9L (c:D5) (r:Int) (h:A2p c=some r):A6 Tryz.prog 161 [.agg (H7 c)] [] (iI r) []:=
 C0 Tryz.func161 Tryz.call161 1 (eN (eN (bC h fun a b h=>cK (An (cW (B4b c.Ab c.W c.K c.Cap c.Now a b) zz) (r1 (cD h (fun d h=>lf) (fun d h=>lf)))))))
theorem C0w (g i:D5) (r:Bool) (h:A4M g i=some r):A6 Tryz.prog 52 [.agg (H7 g), .agg (H7 i)] [] (.sb r) []:=
 C0 Tryz.func52 Tryz.call52 1 (eN (eN (bC h fun a b h=>eN (An (fun c=>An (fun d=>An (fun e=>An (fun f=>cK (An (cW (B39 g.Ab i.Ab a (G1 (aR (aR (aR c d) e) f) b)) zz) (r1 (by (first|cases h|rw [<-oJ h]);exact (An (D0Z (aR (aR (aR (aR c d) e) f) rfl)) trivial))))) (fun f=>(by (first|cases h|rw [<-oJ h]);exact (An (D0Z (aL (aR (aR (aR c d) e) f))) trivial)))) (fun e=>(by (first|cases h|rw [<-oJ h]);exact (An (D0Z (aL (aL (aR (aR c d) e)))) trivial)))) (fun d=>(by (first|cases h|rw [<-oJ h]);exact (An (D0Z (aL (aL (aL (aR c d))))) trivial)))) (fun c=>(by (first|cases h|rw [<-oJ h]);exact (An (D0Z (aL (aL (aL (aL c))))) trivial)))))))
theorem B74 (l:List A3) (n o:Int) (r:List A3) (h:A6M l n o=some r):A6 Tryz.prog 163 [lF 2 (List.map B0 l),iI n,iI o] [] (lF 2 (List.map B0 r)) []:=
 C0 Tryz.func163 Tryz.call163 1 (eN (eN (bC h fun e f h=>bC h fun a b h=>bC h fun c d h=>eN (cK (An (cW (A5A l n e f) zz) (r1 (An (fun j=>cK (An (cW (P2 o _ rfl) zz) (r1 (An (fun k=>cK (An (cW (B4a l a (G1 (nE (oR j k)) b)) zz) (r1 (An (fun m=>cK (An (cW (A1a l c (G1 (nE (oR (oR j k) m)) d)) zz) (r1 (An (fun p=>have h:=cT (oR (oR (oR j k) m) p) h;lf) (fun p=>have h:=cF (oR (oR (oR j k) m) p) h;eN (bC h fun g i h=>cK (An (cW (B5J l n o g i) zz) (r1 lf)))))))) (fun m=>have h:=cT (oL (oR (oR j k) m)) h;lf))))) (fun k=>have h:=cT (oL (oL (oR j k))) h;lf))))) (fun j=>have h:=cT (oL (oL (oL j))) h;lf))))))))
theorem C2M (g:D5) (r:D5×Int) (h:B06 g=some r):A6 Tryz.prog 39 [.agg (H7 g)] [] (.tup [.agg (H7 r.1),iI r.2]) []:=
 C0 Tryz.func39 Tryz.call39 1 (eN (eN (bC h fun a b h=>cK (An (cW (A9L g a b) zz) (r1 (eN (cD h (fun i h=>lf) (fun i h=>eN (bC h fun c d h=>cK (An (cW (A1a g.Ab c d) zz) (r1 (cD h (fun j h=>lf) (fun j h=>eN (bC h fun e f h=>cK (An (cW (B74 g.Ab g.K g.Now e f) zz) (r1 lf))))))))))))))))
end Go.Proofs.YtoljnakoodalpaaGreat
