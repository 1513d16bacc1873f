/- Facts about the row of TopRefused and the program, by computation. -/
import Derived.Test.YtkakobhohikfkaaGreatRows
import Derived.Test.YtkakobhohikfkaaGreatChecked
import Derived.ProofKit
import Derived.OpenShut
namespace Go.Proofs.YtkakobhohikfkaaGreat.topRefused
open Go.ChangeShapes Go.WideShapes Go.ChangeAt Go.RowKit
theorem D4c {a b:Bool} (ha:a=true) (hb:b=true):(a&&b)=true:=by rw [ha,hb];rfl
set_option maxHeartbeats 40000000 in
theorem D2W:joinedFacts Tryz.pinned.checked.prog 3 Tryz.f3 Rows.topRefusedSpec Rows.topRefusedRow=true:=by
 unfold joinedFacts
 iterate 31 (refine D4c ?_ ?_)
 all_goals (as_aux_lemma=>kernel_rfl)
end Go.Proofs.YtkakobhohikfkaaGreat.topRefused
