/- Pu: chapter 08: polynomials (products and powers of wide numbers). -/
import Derived.Test.YtmipeaidieflmaaPuSums2
set_option linter.unusedVariables false
set_option linter.unusedSimpArgs false
set_option linter.unnecessarySimpa false
set_option linter.unusedSectionVars false
namespace Go.Win
open Go.Vc Go.Dec

end Go.Win

