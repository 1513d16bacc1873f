/- Pu: chapter 08: shifts of wide numbers, sums with weights that halve. -/
import Derived.Test.YtmipeaidieflmaaPuPolys
set_option linter.unusedVariables false
set_option linter.unusedSimpArgs false
set_option linter.unnecessarySimpa false
set_option linter.unusedSectionVars false
namespace Go.Win
open Go.Vc Go.Dec

end Go.Win

