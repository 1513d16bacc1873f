/- The contracts: each function of the program does what its function on plain data says. Made by program. -/
import Derived.Test.YticmbokcamokpaaGreatCoh
import Derived.Test.YticmbokcamokpaaGreatCon11
import Derived.Test.YticmbokcamokpaaGreatCon12
set_option linter.unusedVariables false
set_option linter.unusedSimpArgs false
set_option linter.unnecessarySimpa false
set_option maxHeartbeats 40000000
set_option maxRecDepth 20000
namespace Go.Proofs.YticmbokcamokpaaGreat
open Go.Vc Go.Dec Go.Win
instance c_snapshot_Validate {p0:B4}{r:Int}:CF (X5 p0=some r) 32 [.agg [iI p0.Now,iI p0.Be,lF 58 (List.map C6 p0.Ai)]] [] none (iI r) [] none:=⟨fun h=>C0 Tryz.func32 Tryz.call32 1 (let E:List Nat×List Nat×((Int)->St):=([1,24,25],[1],fun q=>[tM 26 (iI q)]);au)⟩
end Go.Proofs.YticmbokcamokpaaGreat
