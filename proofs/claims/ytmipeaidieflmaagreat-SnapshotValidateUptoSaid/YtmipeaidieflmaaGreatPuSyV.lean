/- Pu: chapter 25: the laws about new and valid synopses. -/
import Derived.Test.YtmipeaidieflmaaGreatPuNw
import Derived.Test.YtmipeaidieflmaaGreatPuMade
set_option linter.unusedVariables false
set_option linter.unusedSimpArgs false
set_option linter.unnecessarySimpa false
set_option linter.unusedSectionVars false
namespace Go.Win
open Go.Vc Go.Dec
end Go.Win
