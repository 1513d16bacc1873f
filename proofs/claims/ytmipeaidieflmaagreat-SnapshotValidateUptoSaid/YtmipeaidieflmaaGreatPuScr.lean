/- Pu: chapter 30: frames; the statement ScriptSplits. -/
import Derived.Test.YtmipeaidieflmaaGreatPuEnc
set_option linter.unusedVariables false
set_option linter.unusedSimpArgs false
set_option linter.unnecessarySimpa false
set_option linter.unusedSectionVars false
namespace Go.Win
open Go.Vc Go.Dec
theorem same_refl (l:List Int):ref27_SameBytes l l=some true:=by
 unfold ref27_SameBytes
 rw [beq_self_eq_true]
end Go.Win
