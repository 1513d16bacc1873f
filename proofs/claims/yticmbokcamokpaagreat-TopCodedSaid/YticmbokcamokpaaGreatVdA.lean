/- The framework, what a law wants besides. -/
import Derived.Test.YticmbokcamokpaaGreatVc
set_option linter.unusedVariables false
set_option linter.unusedSimpArgs false
namespace Go.Dec
open Go.Vc Go.RowKit Go.ChangeShapes Go.WideShapes Go.ChangeAt
section
variable {H:Type} {enc:TypeId×Value->H} {P:Program} {w:World} {base:Nat} {spare:Nat->Bool} {held:Bool}
theorem C36 {w:World} {as:List AV} {vs:Array Value} (h:F2 (LR w) as vs.toList):VR1 (C5B w) (.agg as) (.agg vs):=by
 refine ⟨vs,rfl,by simpa using h.length.symm,fun j c hj=> ?_⟩
 obtain ⟨u,h1,h2⟩:=h.get j c hj;exact ⟨u,by simpa using h1,h2.oneCell,PR.vr0 (m:=C5B w) h2⟩
end
end Go.Dec
