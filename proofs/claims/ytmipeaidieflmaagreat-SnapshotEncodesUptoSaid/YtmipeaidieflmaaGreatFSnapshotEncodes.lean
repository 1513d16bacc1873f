/- Facts about the row of SnapshotEncodes and the program, by computation. -/
import Derived.Test.YtmipeaidieflmaaGreatRows
import Derived.Test.YtmipeaidieflmaaGreatChecked
import Derived.ProofKit
import Derived.OpenShut
import Derived.JoinedCond
namespace Go.Proofs.YtmipeaidieflmaaGreat.snapshotEncodes
open Go.ChangeShapes Go.WideShapes Go.ChangeAt Go.RowKit
theorem andI {a b:Bool} (ha:a=true) (hb:b=true):(a&&b)=true:=by rw [ha,hb];rfl
set_option maxHeartbeats 40000000 in
theorem joined:joinedFacts Tryz.pinned.checked.prog 5 Tryz.f5 (Rows.OpenSpec.upto Rows.snapshotEncodesSpec).bare Rows.snapshotEncodesUptoRow=true:=by
 unfold joinedFacts
 iterate 31 (refine andI ?_ ?_)
 all_goals (as_aux_lemma=>kernel_rfl)
end Go.Proofs.YtmipeaidieflmaaGreat.snapshotEncodes
