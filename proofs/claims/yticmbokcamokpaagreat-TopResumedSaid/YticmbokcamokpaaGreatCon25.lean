/- The contracts: each function of the program does what its function on plain data says. Made by program. -/
import Derived.Test.YticmbokcamokpaaGreatCoh
import Derived.Test.YticmbokcamokpaaGreatCon11
import Derived.Test.YticmbokcamokpaaGreatCon16
import Derived.Test.YticmbokcamokpaaGreatCon19
import Derived.Test.YticmbokcamokpaaGreatCon22
import Derived.Test.YticmbokcamokpaaGreatCon23
set_option linter.unusedVariables false
set_option linter.unusedSimpArgs false
set_option linter.unnecessarySimpa false
set_option maxHeartbeats 40000000
set_option maxRecDepth 20000
namespace Go.Proofs.YticmbokcamokpaaGreat
open Go.Vc Go.Dec Go.Win
instance c_synopsis_Advance {p0:A9}{p1:Int}{r:(A9×Int)}:CF (A1q p0 p1=some r) 87 [.agg (G4 p0),iI p1] [] none (.tup [.agg (G4 r.1),iI r.2]) [] none:=⟨fun h=>C0 Tryz.func87 Tryz.call87 1 (au)⟩
instance c_synopsis_Ask {p0:A9}{p1:L9}{r:(E3×Int)}:CF (A0H p0 p1=some r) 59 [.agg (G4 p0), .agg [iI p1.Op,iI p1.A,iI p1.B]] [] none (.tup [.agg (A1g r.1),iI r.2]) [] none:=⟨fun h=>C0 Tryz.func59 Tryz.call59 1 (au)⟩
instance c_synopsis_Needs {p0:A9}{p1:Int}{p2:(List Int)}{r:(Int×Bool)}:CF (B0R p0 p1 p2=some r) 77 [.agg (G4 p0),iI p1,lF 1 (List.map (eI .i64) p2)] [] none (.tup [iI r.1, .sb r.2]) [] none:=⟨fun h=>C0 Tryz.func77 Tryz.call77 1 (au)⟩
end Go.Proofs.YticmbokcamokpaaGreat
