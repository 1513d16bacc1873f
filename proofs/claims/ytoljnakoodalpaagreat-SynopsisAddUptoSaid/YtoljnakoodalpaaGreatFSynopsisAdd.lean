/- Facts about the row of SynopsisAdd and the program, by computation. -/
import Derived.Test.YtoljnakoodalpaaGreatRows
import Derived.Test.YtoljnakoodalpaaGreatChecked
import Derived.ProofKit
import Derived.OpenShut
import Derived.JoinedCond
namespace Go.Proofs.YtoljnakoodalpaaGreat.synopsisAdd
open Go.ChangeShapes Go.WideShapes Go.ChangeAt Go.RowKit
theorem D0M {a b:Bool} (ha:a=true) (hb:b=true):(a&&b)=true:=by rw [ha,hb];rfl
set_option maxHeartbeats 40000000 in
theorem C9C:joinedFacts Tryz.pinned.checked.prog 3 Tryz.f3 (Rows.OpenSpec.upto Rows.synopsisAddSpec).bare Rows.synopsisAddUptoRow=true:=by
 unfold joinedFacts
 iterate 31 (refine D0M ?_ ?_)
 all_goals (as_aux_lemma=>kernel_rfl)
end Go.Proofs.YtoljnakoodalpaaGreat.synopsisAdd
