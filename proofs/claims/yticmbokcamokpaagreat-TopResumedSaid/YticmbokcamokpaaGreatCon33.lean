/- The contracts: each function of the program does what its function on plain data says. Made by program. -/
import Derived.Test.YticmbokcamokpaaGreatCoh
import Derived.Test.YticmbokcamokpaaGreatCon5
import Derived.Test.YticmbokcamokpaaGreatCon12
import Derived.Test.YticmbokcamokpaaGreatCon15
import Derived.Test.YticmbokcamokpaaGreatCon32
set_option linter.unusedVariables false
set_option linter.unusedSimpArgs false
set_option linter.unnecessarySimpa false
set_option maxHeartbeats 40000000
set_option maxRecDepth 20000
namespace Go.Proofs.YticmbokcamokpaaGreat
open Go.Vc Go.Dec Go.Win
instance c_snapshot_Encode {p0:B4}{r:((List Int)×Int)}:CF (Y3 p0=some r) 29 [.agg [iI p0.Now,iI p0.Be,lF 58 (List.map C6 p0.Ai)]] [] none (.tup [lF 1 (List.map (eI .u8) r.1),iI r.2]) [] none:=⟨fun h=>C0 Tryz.func29 Tryz.call29 1 (au)⟩
end Go.Proofs.YticmbokcamokpaaGreat
