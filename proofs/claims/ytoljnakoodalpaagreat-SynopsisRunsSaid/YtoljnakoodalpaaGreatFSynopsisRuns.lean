/- Facts about the row of SynopsisRuns and the program, by computation. -/
import Derived.Test.YtoljnakoodalpaaGreatRows
import Derived.Test.YtoljnakoodalpaaGreatChecked
import Derived.ProofKit
import Derived.OpenShut
namespace Go.Proofs.YtoljnakoodalpaaGreat.synopsisRuns
open Go.ChangeShapes Go.WideShapes Go.ChangeAt Go.RowKit
theorem D2Y {a b:Bool} (ha:a=true) (hb:b=true):(a&&b)=true:=by rw [ha,hb];rfl
set_option maxHeartbeats 40000000 in
theorem D1V:joinedFacts Tryz.pinned.checked.prog 4 Tryz.f4 Rows.synopsisRunsSpec Rows.synopsisRunsRow=true:=by
 unfold joinedFacts
 iterate 31 (refine D2Y ?_ ?_)
 all_goals (as_aux_lemma=>kernel_rfl)
end Go.Proofs.YtoljnakoodalpaaGreat.synopsisRuns
