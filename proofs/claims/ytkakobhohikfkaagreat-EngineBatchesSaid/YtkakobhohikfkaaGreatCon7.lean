/- The contracts: each function of the program does what its function on plain data says. Made by program. -/
import Derived.Test.YtkakobhohikfkaaGreatCoh
import Derived.Test.YtkakobhohikfkaaGreatCon1
import Derived.Test.YtkakobhohikfkaaGreatCon5
import Derived.Test.YtkakobhohikfkaaGreatCon6
set_option linter.unusedVariables false
set_option linter.unusedSimpArgs false
set_option linter.unnecessarySimpa false
set_option maxHeartbeats 40000000
set_option maxRecDepth 20000
namespace Go.Proofs.YtkakobhohikfkaaGreat
open Go.Vc Go.Dec Go.Win
instance c_synopsis_Validate {p0:A8}{r:Int}:CF (J5 p0=some r) 80 [.agg (G5 p0)] [] none (iI r) [] none:=⟨fun h=>C0 Tryz.func80 Tryz.call80 1 (au)⟩
instance c_registry_Valid {p0:(List A6)}{p1:Int}{r:Bool}:CF (P3 p0 p1=some r) 108 [lF 58 (List.map C5 p0),iI p1] [] none (.sb r) [] none:=⟨fun h=>C0 Tryz.func108 Tryz.call108 1 (let E:List Nat×List Nat×((Int)->St):=([0,19,20],[],fun q=>[tM 21 (iI q)]);au)⟩
instance c_ref09_SameNumbers {p0:(List Int)}{p1:(List Int)}{r:Bool}:CF (U1 p0 p1=some r) 63 [lF 1 (List.map (eI .i64) p0),lF 1 (List.map (eI .i64) p1)] [] none (.sb r) [] none:=⟨fun h=>C0 Tryz.func63 Tryz.call63 1 (let E:List Nat×List Nat×((Int)->St):=([0,1,12],[],fun q=>[tM 13 (iI q)]);au)⟩
end Go.Proofs.YtkakobhohikfkaaGreat
