/- The contracts: each function of the program does what its function on plain data says. Made by program. -/
import Derived.Test.YticmbokcamokpaaGreatCoh
import Derived.Test.YticmbokcamokpaaGreatCon7
import Derived.Test.YticmbokcamokpaaGreatCon4
import Derived.Test.YticmbokcamokpaaGreatCon16
import Derived.Test.YticmbokcamokpaaGreatCon24
import Derived.Test.YticmbokcamokpaaGreatCon25
import Derived.Test.YticmbokcamokpaaGreatCon28
import Derived.Test.YticmbokcamokpaaGreatCon29
set_option linter.unusedVariables false
set_option linter.unusedSimpArgs false
set_option linter.unnecessarySimpa false
set_option maxHeartbeats 40000000
set_option maxRecDepth 20000
namespace Go.Proofs.YticmbokcamokpaaGreat
open Go.Vc Go.Dec Go.Win
instance c_engine_order_add {p0:D8}{r:(Int×D8)}:CF (A1h p0=some r) 48 [.ptr 0 0] [(H6 p0)] none (iI r.1) [(H6 r.2)] none:=⟨fun h=>C0 Tryz.func48 Tryz.call48 2 (au)⟩
instance c_top_awake {r:Bool}:CF (B46=some r) 18 [] [] none (.sb r) [] none:=⟨fun h=>C0 Tryz.func18 Tryz.call18 1 (au)⟩
end Go.Proofs.YticmbokcamokpaaGreat
