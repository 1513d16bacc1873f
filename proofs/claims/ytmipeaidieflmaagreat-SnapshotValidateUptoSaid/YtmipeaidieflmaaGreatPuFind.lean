/- Pu: chapter 26: places of ids. -/
import Derived.Test.YtmipeaidieflmaaGreatPu0
import Derived.Test.YtmipeaidieflmaaGreatWin
set_option linter.unusedVariables false
set_option linter.unusedSimpArgs false
set_option linter.unnecessarySimpa false
set_option linter.unusedSectionVars false
namespace Go.Win
open Go.Vc Go.Dec
end Go.Win
