/- The framework, what a law without a bound wants besides. -/
import Derived.Test.YtkakobhohikfkaaGreatVc
set_option linter.unusedVariables false
set_option linter.unusedSimpArgs false
namespace Go.Dec
open Go.Vc Go.RowKit Go.ChangeShapes Go.WideShapes Go.ChangeAt
section
variable {H:Type} {enc:TypeId×Value->H} {P:Program} {w:World} {base:Nat} {spare:Nat->Bool} {held:Bool}
theorem B85 {α:Type} {l:List α} {i:Nat} (h:i<l.length):C1 l (i:Int)=some l[i]:=by simp [h]
end
end Go.Dec
