/- The contracts: each function of the program does what its function on plain data says. Made by program. -/
import Derived.Test.YticmbokcamokpaaGreatCoh
set_option linter.unusedVariables false
set_option linter.unusedSimpArgs false
set_option linter.unnecessarySimpa false
set_option maxHeartbeats 40000000
set_option maxRecDepth 20000
namespace Go.Proofs.YticmbokcamokpaaGreat
open Go.Vc Go.Dec Go.Win
instance c_ref27_SameBytes {p0:List Int}{p1:List Int}{r:Bool}:CF (A6f p0 p1=some r) 25 [lF 1 (List.map (eI .u8) p0),lF 1 (List.map (eI .u8) p1)] [] none (.sb r) [] none:=⟨fun h=>(by cases h;exact C9T Tryz.call25 Tryz.underlying28 Tryz.underlying5 Tryz.underlying9 C3g p0 p1)⟩
end Go.Proofs.YticmbokcamokpaaGreat
