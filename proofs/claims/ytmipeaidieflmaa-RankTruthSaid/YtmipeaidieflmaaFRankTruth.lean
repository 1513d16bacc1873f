/- Facts about the row of RankTruth and the program, by computation. -/
import Derived.Test.YtmipeaidieflmaaRows
import Derived.Test.YtmipeaidieflmaaChecked
import Derived.ProofKit
import Derived.OpenShut
namespace Go.Proofs.Ytmipeaidieflmaa.rankTruth
open Go.ChangeShapes Go.WideShapes Go.ChangeAt Go.RowKit

theorem joined : joinedFacts Try.pinned.checked.prog 6 Try.f6 Rows.rankTruthSpec Rows.rankTruthRow = true := by kernel_rfl
end Go.Proofs.Ytmipeaidieflmaa.rankTruth
