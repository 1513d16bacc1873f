/- Facts about the row of EngineRefuses and the program, by computation. -/
import Derived.Test.YtkakobhohikfkaaGreatRows
import Derived.Test.YtkakobhohikfkaaGreatChecked
import Derived.ProofKit
import Derived.OpenShut
import Derived.JoinedCond
namespace Go.Proofs.YtkakobhohikfkaaGreat.engineRefuses
open Go.ChangeShapes Go.WideShapes Go.ChangeAt Go.RowKit
theorem D6Y {a b:Bool} (ha:a=true) (hb:b=true):(a&&b)=true:=by rw [ha,hb];rfl
set_option maxHeartbeats 40000000 in
theorem D5j:joinedFacts Tryz.pinned.checked.prog 6 Tryz.f6 (Rows.OpenSpec.upto Rows.engineRefusesSpec).bare Rows.engineRefusesUptoRow=true:=by
 unfold joinedFacts
 iterate 31 (refine D6Y ?_ ?_)
 all_goals (as_aux_lemma=>kernel_rfl)
end Go.Proofs.YtkakobhohikfkaaGreat.engineRefuses
