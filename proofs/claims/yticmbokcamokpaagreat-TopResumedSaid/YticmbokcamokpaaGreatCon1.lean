/- The contracts: each function of the program does what its function on plain data says. Made by program. -/
import Derived.Test.YticmbokcamokpaaGreatCoh
set_option linter.unusedVariables false
set_option linter.unusedSimpArgs false
set_option linter.unnecessarySimpa false
set_option maxHeartbeats 40000000
set_option maxRecDepth 20000
namespace Go.Proofs.YticmbokcamokpaaGreat
open Go.Vc Go.Dec Go.Win
theorem B0s {a:B7}{r:B7}(h:A5O a=r):E9 Tryz.prog 78 [.agg (I5 a)] [] (.agg (I5 r)) []:=
 C0 Tryz.func78 Tryz.call78 1 (au)
instance:CC 78 (type_of% @B0s):=⟨@B0s⟩
end Go.Proofs.YticmbokcamokpaaGreat
