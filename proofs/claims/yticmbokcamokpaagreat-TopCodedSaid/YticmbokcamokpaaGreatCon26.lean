/- The contracts: each function of the program does what its function on plain data says. Made by program. -/
import Derived.Test.YticmbokcamokpaaGreatCoh
import Derived.Test.YticmbokcamokpaaGreatCon7
import Derived.Test.YticmbokcamokpaaGreatCon9
import Derived.Test.YticmbokcamokpaaGreatCon16
import Derived.Test.YticmbokcamokpaaGreatCon24
import Derived.Test.YticmbokcamokpaaGreatCon25
set_option linter.unusedVariables false
set_option linter.unusedSimpArgs false
set_option linter.unnecessarySimpa false
set_option maxHeartbeats 40000000
set_option maxRecDepth 20000
namespace Go.Proofs.YticmbokcamokpaaGreat
open Go.Vc Go.Dec Go.Win
instance c_engine_order_create {p0:D8}{r:(Int×D8)}:CF (Y5 p0=some r) 45 [.ptr 0 0] [(H6 p0)] none (iI r.1) [(H6 r.2)] none:=⟨fun h=>C0 Tryz.func45 Tryz.call45 2 (au)⟩
instance c_engine_order_drop {p0:D8}{r:(Int×D8)}:CF (A0I p0=some r) 46 [.ptr 0 0] [(H6 p0)] none (iI r.1) [(H6 r.2)] none:=⟨fun h=>C0 Tryz.func46 Tryz.call46 2 (au)⟩
instance c_engine_order_tick {p0:D8}{r:(Int×D8)}:CF (A0J p0=some r) 47 [.ptr 0 0] [(H6 p0)] none (iI r.1) [(H6 r.2)] none:=⟨fun h=>C0 Tryz.func47 Tryz.call47 2 (let E:List Nat×List Nat×((((List A7)×Int))->St):=([0,3,32],[0],fun q=>[tM 4 (.own 776),tM 33 (iI q.2),(.tok 776, .tok 152 58 (List.map C6 q.1))]);au)⟩
instance c_engine_order_ask {p0:D8}{r:(Int×D8)}:CF (A1i p0=some r) 49 [.ptr 0 0] [(H6 p0)] none (iI r.1) [(H6 r.2)] none:=⟨fun h=>C0 Tryz.func49 Tryz.call49 2 (au)⟩
end Go.Proofs.YticmbokcamokpaaGreat
