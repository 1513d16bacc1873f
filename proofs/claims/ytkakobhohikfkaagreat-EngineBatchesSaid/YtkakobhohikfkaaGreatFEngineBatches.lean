/- Facts about the row of EngineBatches and the program, by computation. -/
import Derived.Test.YtkakobhohikfkaaGreatRows
import Derived.Test.YtkakobhohikfkaaGreatChecked
import Derived.ProofKit
import Derived.OpenShut
namespace Go.Proofs.YtkakobhohikfkaaGreat.engineBatches
open Go.ChangeShapes Go.WideShapes Go.ChangeAt Go.RowKit
theorem D6Y {a b:Bool} (ha:a=true) (hb:b=true):(a&&b)=true:=by rw [ha,hb];rfl
set_option maxHeartbeats 40000000 in
theorem D5j:joinedFacts Tryz.pinned.checked.prog 7 Tryz.f7 Rows.engineBatchesSpec Rows.engineBatchesRow=true:=by
 unfold joinedFacts
 iterate 31 (refine D6Y ?_ ?_)
 all_goals (as_aux_lemma=>kernel_rfl)
end Go.Proofs.YtkakobhohikfkaaGreat.engineBatches
