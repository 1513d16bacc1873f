/- The contracts: each function of the program does what its function on plain data says. Made by program. -/
import Derived.Test.YticmbokcamokpaaGreatCoh
set_option linter.unusedVariables false
set_option linter.unusedSimpArgs false
set_option linter.unnecessarySimpa false
set_option maxHeartbeats 40000000
set_option maxRecDepth 20000
namespace Go.Proofs.YticmbokcamokpaaGreat
open Go.Vc Go.Dec Go.Win
instance c_registry_Find_1_i1 {p0:Int}{b0_0:(List A7)}{b1_0:Int}{r:Bool}:CF (A6N p0 b0_0 b1_0=some r) 145 [iI p0, .ptr 0 0, .ptr 1 0] [[lF 58 (List.map C6 b0_0)], [iI b1_0]] none (.sb r) [[lF 58 (List.map C6 b0_0)], [iI b1_0]] none:=⟨fun h=>C0 Tryz.func145 Tryz.call145 3 (au)⟩
instance c_sort_Search_i1 {p0:Int}{b0_0:(List A7)}{b1_0:Int}{r:Int}:CF (A7x p0 b0_0 b1_0=some r) 144 [iI p0, .clo 145 [] [.ptr 0 0, .ptr 1 0]] [[lF 58 (List.map C6 b0_0)], [iI b1_0]] none (iI r) [[lF 58 (List.map C6 b0_0)], [iI b1_0]] none:=⟨fun h=>C0 Tryz.func144 Tryz.call144 3 (let E:List Nat×List Nat×(((Int×Int))->St):=([1],[0,1],fun q=>[tM 5 (iI q.1),tM 6 (iI q.2)]);au)⟩
instance c_registry_Find {p0:(List A7)}{p1:Int}{r:(Int×Bool)}:CF (A0Y p0 p1=some r) 76 [lF 58 (List.map C6 p0),iI p1] [] none (.tup [iI r.1, .sb r.2]) [] none:=⟨fun h=>C0 Tryz.func76 Tryz.call76 1 (au)⟩
instance c_registry_IDs {p0:(List A7)}{r:(List Int)}:CF (A1J p0=some r) 90 [lF 58 (List.map C6 p0)] [] none (lF 1 (List.map (eI .i64) r)) [] none:=⟨fun h=>C0 Tryz.func90 Tryz.call90 1 (let E:List Nat×List Nat×((((List Int)×Int))->St):=([6,7],[],fun q=>[tM 3 (.own 768),tM 8 (iI q.2),(.tok 768, .tok 2 1 (List.map (eI .i64) q.1))]);au)⟩
end Go.Proofs.YticmbokcamokpaaGreat
