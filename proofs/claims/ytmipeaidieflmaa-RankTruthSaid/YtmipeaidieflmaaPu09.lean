/- Pu: chapters 08 and 09: items that are in order, items that are live, recent items. -/
import Derived.Test.YtmipeaidieflmaaPu0
import Derived.Test.YtmipeaidieflmaaWin
set_option linter.unusedVariables false
set_option linter.unusedSimpArgs false
set_option linter.unnecessarySimpa false
set_option linter.unusedSectionVars false
namespace Go.Win
open Go.Vc Go.Dec

theorem succ_nat {i n : Nat} (h : i < n) (hm : n ≤ maxLen) : w64 ((i : Int) + 1) = (i : Int) + 1 := by
  rw [maxLen_eq] at hm
  rw [w64_id] <;> omega
theorem get_some {α : Type} {l : List α} {i : Nat} (h : i < l.length) : l[i]? = some l[i] := List.getElem?_eq_getElem h

end Go.Win

