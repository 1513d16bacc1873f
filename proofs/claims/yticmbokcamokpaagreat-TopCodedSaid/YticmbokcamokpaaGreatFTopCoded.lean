/- Facts about the row of TopCoded and the program, by computation. -/
import Derived.Test.YticmbokcamokpaaGreatRows
import Derived.Test.YticmbokcamokpaaGreatChecked
import Derived.ProofKit
import Derived.OpenShut
namespace Go.Proofs.YticmbokcamokpaaGreat.topCoded
open Go.ChangeShapes Go.WideShapes Go.ChangeAt Go.RowKit
theorem D7p {a b:Bool} (ha:a=true) (hb:b=true):(a&&b)=true:=by rw [ha,hb];rfl
set_option maxHeartbeats 40000000 in
theorem D5Q:joinedFacts Tryz.pinned.checked.prog 3 Tryz.f3 Rows.topCodedSpec Rows.topCodedRow=true:=by
 unfold joinedFacts
 iterate 31 (refine D7p ?_ ?_)
 all_goals (as_aux_lemma=>kernel_rfl)
end Go.Proofs.YticmbokcamokpaaGreat.topCoded
