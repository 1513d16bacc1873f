/- Facts about the row of ScriptSplits and the program, by computation. -/
import Derived.Test.YtmipeaidieflmaaRows
import Derived.Test.YtmipeaidieflmaaChecked
import Derived.ProofKit
import Derived.OpenShut
namespace Go.Proofs.Ytmipeaidieflmaa.scriptSplits
open Go.ChangeShapes Go.WideShapes Go.ChangeAt Go.RowKit

theorem joined : joinedFacts Try.pinned.checked.prog 4 Try.f4 Rows.scriptSplitsSpec Rows.scriptSplitsRow = true := by kernel_rfl
end Go.Proofs.Ytmipeaidieflmaa.scriptSplits
