/- The contracts: each function of the program does what its function on plain data says. Made by program. -/
import Derived.Test.YtkakobhohikfkaaGreatCoh
import Derived.Test.YtkakobhohikfkaaGreatCon7
set_option linter.unusedVariables false
set_option linter.unusedSimpArgs false
set_option linter.unnecessarySimpa false
set_option maxHeartbeats 40000000
set_option maxRecDepth 20000
namespace Go.Proofs.YtkakobhohikfkaaGreat
open Go.Vc Go.Dec Go.Win
instance c_registry_Find_1_i1 {p0:Int}{b0_0:(List B0)}{b1_0:Int}{r:Bool}:CF (A48 p0 b0_0 b1_0=some r) 222 [iI p0, .ptr 0 0, .ptr 1 0] [[lF 58 (List.map C7 b0_0)], [iI b1_0]] none (.sb r) [[lF 58 (List.map C7 b0_0)], [iI b1_0]] none:=⟨fun h=>C0 Tryz.func222 Tryz.call222 3 (au)⟩
instance c_sort_Search_i1 {p0:Int}{b0_0:(List B0)}{b1_0:Int}{r:Int}:CF (A5L p0 b0_0 b1_0=some r) 221 [iI p0, .clo 222 [] [.ptr 0 0, .ptr 1 0]] [[lF 58 (List.map C7 b0_0)], [iI b1_0]] none (iI r) [[lF 58 (List.map C7 b0_0)], [iI b1_0]] none:=⟨fun h=>C0 Tryz.func221 Tryz.call221 3 (let E:List Nat×List Nat×(((Int×Int))->St):=([1],[0,1],fun q=>[tM 5 (iI q.1),tM 6 (iI q.2)]);au)⟩
instance c_registry_Find {p0:(List B0)}{p1:Int}{r:(Int×Bool)}:CF (A0g p0 p1=some r) 120 [lF 58 (List.map C7 p0),iI p1] [] none (.tup [iI r.1, .sb r.2]) [] none:=⟨fun h=>C0 Tryz.func120 Tryz.call120 1 (au)⟩
instance c_registry_Insert {p0:(List B0)}{p1:Int}{p2:B0}{r:((List B0)×Int)}:CF (A4D p0 p1 p2=some r) 110 [lF 58 (List.map C7 p0),iI p1, .agg (C7 p2)] [] none (.tup [lF 58 (List.map C7 r.1),iI r.2]) [] none:=⟨fun h=>C0 Tryz.func110 Tryz.call110 1 (au)⟩
instance c_registry_Remove {p0:(List B0)}{p1:Int}{r:((List B0)×Int)}:CF (A4E p0 p1=some r) 111 [lF 58 (List.map C7 p0),iI p1] [] none (.tup [lF 58 (List.map C7 r.1),iI r.2]) [] none:=⟨fun h=>C0 Tryz.func111 Tryz.call111 1 (au)⟩
instance c_registry_Replace {p0:(List B0)}{p1:B0}{r:((List B0)×Int)}:CF (A3U p0 p1=some r) 114 [lF 58 (List.map C7 p0), .agg (C7 p1)] [] none (.tup [lF 58 (List.map C7 r.1),iI r.2]) [] none:=⟨fun h=>C0 Tryz.func114 Tryz.call114 1 (au)⟩
instance c_registry_IDs {p0:(List B0)}{r:(List Int)}:CF (A49 p0=some r) 115 [lF 58 (List.map C7 p0)] [] none (lF 1 (List.map (eI .i64) r)) [] none:=⟨fun h=>C0 Tryz.func115 Tryz.call115 1 (let E:List Nat×List Nat×((((List Int)×Int))->St):=([6,7],[],fun q=>[tM 3 (.own 768),tM 8 (iI q.2),(.tok 768, .tok 2 1 (List.map (eI .i64) q.1))]);au)⟩
end Go.Proofs.YtkakobhohikfkaaGreat
