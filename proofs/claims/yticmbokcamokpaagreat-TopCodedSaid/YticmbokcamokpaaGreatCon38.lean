/- The contracts: each function of the program does what its function on plain data says. Made by program. -/
import Derived.Test.YticmbokcamokpaaGreatCoh
import Derived.Test.YticmbokcamokpaaGreatCon37
set_option linter.unusedVariables false
set_option linter.unusedSimpArgs false
set_option linter.unnecessarySimpa false
set_option maxHeartbeats 40000000
set_option maxRecDepth 20000
namespace Go.Proofs.YticmbokcamokpaaGreat
open Go.Vc Go.Dec Go.Win
instance c_engine_order_load {p0:D8}{r:(Int×D8)}:CF (A4g p0=some r) 52 [.ptr 0 0] [(H6 p0)] none (iI r.1) [(H6 r.2)] none:=⟨fun h=>C0 Tryz.func52 Tryz.call52 2 (au)⟩
end Go.Proofs.YticmbokcamokpaaGreat
