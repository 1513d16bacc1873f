/- Facts about the row of SnapshotDecodes and the program, by computation. -/
import Derived.Test.YtmipeaidieflmaaGreatRows
import Derived.Test.YtmipeaidieflmaaGreatChecked
import Derived.ProofKit
import Derived.OpenShut
namespace Go.Proofs.YtmipeaidieflmaaGreat.snapshotDecodes
open Go.ChangeShapes Go.WideShapes Go.ChangeAt Go.RowKit
theorem andI {a b:Bool} (ha:a=true) (hb:b=true):(a&&b)=true:=by rw [ha,hb];rfl
set_option maxHeartbeats 40000000 in
theorem joined:joinedFacts Tryz.pinned.checked.prog 6 Tryz.f6 Rows.snapshotDecodesSpec Rows.snapshotDecodesRow=true:=by
 unfold joinedFacts
 iterate 31 (refine andI ?_ ?_)
 all_goals (as_aux_lemma=>kernel_rfl)
end Go.Proofs.YtmipeaidieflmaaGreat.snapshotDecodes
