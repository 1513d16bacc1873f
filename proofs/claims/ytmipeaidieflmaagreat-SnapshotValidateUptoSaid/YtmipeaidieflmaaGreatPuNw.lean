/- Pu: chapter 25: empty synopses, numbers of records. -/
import Derived.Test.YtmipeaidieflmaaGreatPuSy
set_option linter.unusedVariables false
set_option linter.unusedSimpArgs false
set_option linter.unnecessarySimpa false
set_option linter.unusedSectionVars false
namespace Go.Win
open Go.Vc Go.Dec
end Go.Win
