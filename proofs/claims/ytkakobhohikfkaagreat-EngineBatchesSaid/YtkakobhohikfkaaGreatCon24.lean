/- The contracts: each function of the program does what its function on plain data says. Made by program. -/
import Derived.Test.YtkakobhohikfkaaGreatCoh
import Derived.Test.YtkakobhohikfkaaGreatCon7
set_option linter.unusedVariables false
set_option linter.unusedSimpArgs false
set_option linter.unnecessarySimpa false
set_option maxHeartbeats 40000000
set_option maxRecDepth 20000
namespace Go.Proofs.YtkakobhohikfkaaGreat
open Go.Vc Go.Dec Go.Win
instance c_ref27_List {p0:(List Int)}{r:(List Int)}:CF (A8H p0=some r) 136 [lF 1 (List.map (eI .i64) p0)] [] none (lF 1 (List.map (eI .i64) r)) [] none:=⟨fun h=>C0 Tryz.func136 Tryz.call136 1 (au)⟩
instance c_ref27_Bytes {p0:(List Int)}{r:(List Int)}:CF (A96 p0=some r) 137 [lF 1 (List.map (eI .u8) p0)] [] none (lF 1 (List.map (eI .i64) r)) [] none:=⟨fun h=>C0 Tryz.func137 Tryz.call137 1 (let E:List Nat×List Nat×((((List Int)×Int))->St):=([9,10],[],fun q=>[tM 3 (.own 259),tM 11 (iI q.2),(.tok 259, .tok 2 1 (List.map (eI .i64) q.1))]);au)⟩
instance c_ref27_Reply {p0:G8}{r:(List Int)}:CF (A63 p0=some r) 64 [.agg (A0t p0)] [] none (lF 1 (List.map (eI .i64) r)) [] none:=⟨fun h=>C0 Tryz.func64 Tryz.call64 1 (au)⟩
instance c_ref27_SameReply {p0:G8}{p1:G8}{r:Bool}:CF (A1l p0 p1=some r) 22 [.agg (A0t p0), .agg (A0t p1)] [] none (.sb r) [] none:=⟨fun h=>C0 Tryz.func22 Tryz.call22 1 (au)⟩
end Go.Proofs.YtkakobhohikfkaaGreat
