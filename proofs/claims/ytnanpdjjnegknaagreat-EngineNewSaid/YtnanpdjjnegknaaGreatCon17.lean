/- The contracts: each function of the program does what its function on plain data says. Made by program. -/
import Derived.Test.YtnanpdjjnegknaaGreatCoh
set_option linter.unusedVariables false
set_option linter.unusedSimpArgs false
set_option linter.unnecessarySimpa false
set_option maxHeartbeats 40000000
set_option maxRecDepth 20000
namespace Go.Proofs.YtnanpdjjnegknaaGreat
open Go.Vc Go.Dec Go.Win
theorem C3C (c:Int) (r:G7×Int) (h:B1n c=r):A4 Tryz.prog 16 [iI c] [] (.tup [.agg [iI r.1.Now,iI r.1.Bd,lF 58 (List.map A9 r.1.Ah)],iI r.2]) []:=
 C0 Tryz.func16 Tryz.call16 1 (eN (eN (eN (An (fun a=>An (fun b=>have h:=cT (oR a b) h;lf) (fun b=>have h:=cF (oR a b) h;lf)) (fun a=>have h:=cT (oL a) h;lf)))))
end Go.Proofs.YtnanpdjjnegknaaGreat
