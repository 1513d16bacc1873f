/- The contracts: each function of the program does what its function on plain data says. Made by program. -/
import Derived.Test.YticmbokcamokpaaGreatCoh
import Derived.Test.YticmbokcamokpaaGreatCon3
import Derived.Test.YticmbokcamokpaaGreatCon17
set_option linter.unusedVariables false
set_option linter.unusedSimpArgs false
set_option linter.unnecessarySimpa false
set_option maxHeartbeats 40000000
set_option maxRecDepth 20000
namespace Go.Proofs.YticmbokcamokpaaGreat
open Go.Vc Go.Dec Go.Win
instance c_smooth_Add {p0:D2}{p1:Int}{r:(D2×Int)}:CF (A7v p0 p1=some r) 113 [.agg [iI p0.Bp,iI p0.W,iI p0.K,iI p0.Cap,iI p0.Now,iI p0.Bx,lF 7 (List.map C8 p0.Bg)],iI p1] [] none (.tup [.agg (K9 r.1),iI r.2]) [] none:=⟨fun h=>C0 Tryz.func113 Tryz.call113 1 (au)⟩
end Go.Proofs.YticmbokcamokpaaGreat
