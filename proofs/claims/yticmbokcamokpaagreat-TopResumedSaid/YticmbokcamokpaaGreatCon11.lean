/- The contracts: each function of the program does what its function on plain data says. Made by program. -/
import Derived.Test.YticmbokcamokpaaGreatCoh
import Derived.Test.YticmbokcamokpaaGreatCon9
import Derived.Test.YticmbokcamokpaaGreatCon4
import Derived.Test.YticmbokcamokpaaGreatCon10
set_option linter.unusedVariables false
set_option linter.unusedSimpArgs false
set_option linter.unnecessarySimpa false
set_option maxHeartbeats 40000000
set_option maxRecDepth 20000
namespace Go.Proofs.YticmbokcamokpaaGreat
open Go.Vc Go.Dec Go.Win
instance c_synopsis_Validate {p0:A9}{r:Int}:CF (N2 p0=some r) 109 [.agg (G4 p0)] [] none (iI r) [] none:=⟨fun h=>C0 Tryz.func109 Tryz.call109 1 (au)⟩
instance c_registry_Valid {p0:(List A7)}{p1:Int}{r:Bool}:CF (A1n p0 p1=some r) 74 [lF 58 (List.map C6 p0),iI p1] [] none (.sb r) [] none:=⟨fun h=>C0 Tryz.func74 Tryz.call74 1 (let E:List Nat×List Nat×((Int)->St):=([0,19,20],[],fun q=>[tM 21 (iI q)]);au)⟩
end Go.Proofs.YticmbokcamokpaaGreat
