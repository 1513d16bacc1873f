/- Facts about the row of EngineNew and the program, by computation. -/
import Derived.Test.YtnanpdjjnegknaaGreatRows
import Derived.Test.YtnanpdjjnegknaaGreatChecked
import Derived.ProofKit
import Derived.OpenShut
namespace Go.Proofs.YtnanpdjjnegknaaGreat.engineNew
open Go.ChangeShapes Go.WideShapes Go.ChangeAt Go.RowKit
theorem D1D {a b:Bool} (ha:a=true) (hb:b=true):(a&&b)=true:=by rw [ha,hb];rfl
set_option maxHeartbeats 40000000 in
theorem D0S:joinedFacts Tryz.pinned.checked.prog 3 Tryz.f3 Rows.engineNewSpec Rows.engineNewRow=true:=by
 unfold joinedFacts
 iterate 31 (refine D1D ?_ ?_)
 all_goals (as_aux_lemma=>kernel_rfl)
end Go.Proofs.YtnanpdjjnegknaaGreat.engineNew
