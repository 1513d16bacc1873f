/- The contracts: each function of the program does what its function on plain data says. Made by program. -/
import Derived.Test.YticmbokcamokpaaGreatCoh
import Derived.Test.YticmbokcamokpaaGreatCon11
import Derived.Test.YticmbokcamokpaaGreatCon2
set_option linter.unusedVariables false
set_option linter.unusedSimpArgs false
set_option linter.unnecessarySimpa false
set_option maxHeartbeats 40000000
set_option maxRecDepth 20000
namespace Go.Proofs.YticmbokcamokpaaGreat
open Go.Vc Go.Dec Go.Win
instance c_registry_Insert {p0:(List A7)}{p1:Int}{p2:A7}{r:((List A7)×Int)}:CF (A6g p0 p1 p2=some r) 85 [lF 58 (List.map C6 p0),iI p1, .agg (C6 p2)] [] none (.tup [lF 58 (List.map C6 r.1),iI r.2]) [] none:=⟨fun h=>C0 Tryz.func85 Tryz.call85 1 (au)⟩
instance c_registry_Remove {p0:(List A7)}{p1:Int}{r:((List A7)×Int)}:CF (A6h p0 p1=some r) 86 [lF 58 (List.map C6 p0),iI p1] [] none (.tup [lF 58 (List.map C6 r.1),iI r.2]) [] none:=⟨fun h=>C0 Tryz.func86 Tryz.call86 1 (au)⟩
instance c_registry_Replace {p0:(List A7)}{p1:A7}{r:((List A7)×Int)}:CF (A5n p0 p1=some r) 89 [lF 58 (List.map C6 p0), .agg (C6 p1)] [] none (.tup [lF 58 (List.map C6 r.1),iI r.2]) [] none:=⟨fun h=>C0 Tryz.func89 Tryz.call89 1 (au)⟩
end Go.Proofs.YticmbokcamokpaaGreat
