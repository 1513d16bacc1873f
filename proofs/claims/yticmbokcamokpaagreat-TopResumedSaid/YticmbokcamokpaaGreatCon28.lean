/- The contracts: each function of the program does what its function on plain data says. Made by program. -/
import Derived.Test.YticmbokcamokpaaGreatCoh
import Derived.Test.YticmbokcamokpaaGreatCon11
import Derived.Test.YticmbokcamokpaaGreatCon16
import Derived.Test.YticmbokcamokpaaGreatCon17
import Derived.Test.YticmbokcamokpaaGreatCon18
import Derived.Test.YticmbokcamokpaaGreatCon19
import Derived.Test.YticmbokcamokpaaGreatCon27
set_option linter.unusedVariables false
set_option linter.unusedSimpArgs false
set_option linter.unnecessarySimpa false
set_option maxHeartbeats 40000000
set_option maxRecDepth 20000
namespace Go.Proofs.YticmbokcamokpaaGreat
open Go.Vc Go.Dec Go.Win
instance c_synopsis_Add {p0:A9}{p1:Int}{p2:(List Int)}{r:(A9×Int)}:CF (Z6 p0 p1 p2=some r) 58 [.agg (G4 p0),iI p1,lF 1 (List.map (eI .i64) p2)] [] none (.tup [.agg (G4 r.1),iI r.2]) [] none:=⟨fun h=>C0 Tryz.func58 Tryz.call58 1 (au)⟩
end Go.Proofs.YticmbokcamokpaaGreat
