/- Facts about the row of ScriptReplies and the program, by computation. -/
import Derived.Test.YtmipeaidieflmaaRows
import Derived.Test.YtmipeaidieflmaaChecked
import Derived.ProofKit
import Derived.OpenShut
namespace Go.Proofs.Ytmipeaidieflmaa.scriptReplies
open Go.ChangeShapes Go.WideShapes Go.ChangeAt Go.RowKit

theorem joined : joinedFacts Try.pinned.checked.prog 5 Try.f5 Rows.scriptRepliesSpec Rows.scriptRepliesRow = true := by kernel_rfl
end Go.Proofs.Ytmipeaidieflmaa.scriptReplies
