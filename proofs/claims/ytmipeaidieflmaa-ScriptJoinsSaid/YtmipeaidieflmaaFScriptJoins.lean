/- Facts about the row of ScriptJoins and the program, by computation. -/
import Derived.Test.YtmipeaidieflmaaRows
import Derived.Test.YtmipeaidieflmaaChecked
import Derived.ProofKit
import Derived.OpenShut
namespace Go.Proofs.Ytmipeaidieflmaa.scriptJoins
open Go.ChangeShapes Go.WideShapes Go.ChangeAt Go.RowKit

theorem joined : joinedFacts Try.pinned.checked.prog 3 Try.f3 Rows.scriptJoinsSpec Rows.scriptJoinsRow = true := by kernel_rfl
end Go.Proofs.Ytmipeaidieflmaa.scriptJoins
