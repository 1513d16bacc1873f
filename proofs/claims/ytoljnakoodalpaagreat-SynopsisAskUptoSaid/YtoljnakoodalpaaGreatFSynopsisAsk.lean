/- Facts about the row of SynopsisAsk and the program, by computation. -/
import Derived.Test.YtoljnakoodalpaaGreatRows
import Derived.Test.YtoljnakoodalpaaGreatChecked
import Derived.ProofKit
import Derived.OpenShut
import Derived.JoinedCond
namespace Go.Proofs.YtoljnakoodalpaaGreat.synopsisAsk
open Go.ChangeShapes Go.WideShapes Go.ChangeAt Go.RowKit
theorem D4h {a b:Bool} (ha:a=true) (hb:b=true):(a&&b)=true:=by rw [ha,hb];rfl
set_option maxHeartbeats 40000000 in
theorem D24:joinedFacts Tryz.pinned.checked.prog 5 Tryz.f5 (Rows.OpenSpec.upto Rows.synopsisAskSpec).bare Rows.synopsisAskUptoRow=true:=by
 unfold joinedFacts
 iterate 31 (refine D4h ?_ ?_)
 all_goals (as_aux_lemma=>kernel_rfl)
end Go.Proofs.YtoljnakoodalpaaGreat.synopsisAsk
