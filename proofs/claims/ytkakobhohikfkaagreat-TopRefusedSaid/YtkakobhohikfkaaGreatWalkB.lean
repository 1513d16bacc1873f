/- Walks of functions of the library (texts of the kit's shelf). -/
import Derived.Test.YtkakobhohikfkaaGreatChecked
import Derived.Lib.Strings
import Derived.Lib.Slices
import Derived.Lib.Small
import Derived.Lib.Walk
import Derived.Lib.BitFns
import Derived.Lib.Bytes
import Derived.Laws.BytesArg
namespace Go.Proofs
set_option maxHeartbeats 1000000 in
theorem walk_SameBytes (v1 v2:Value) (xs ys:List Int) (w:World)
  (h1:(convert 28 9 v1).run Tryz.prog w= .ok (.string (strOfNums xs)) w) (h2:(convert 28 9 v2).run Tryz.prog w= .ok (.string (strOfNums ys)) w):
  Calls Tryz.prog 47 #[v1,v2] w fun e w' =>e= .returned (.bool (Lib.bytesOf xs==Lib.bytesOf ys))∧w' =w:=by
 rw [←Lib.strOfNums_toList,←Lib.strOfNums_toList]
 go_enter Tryz.func47,Tryz.ntmps47
 go_wp2
 go_ret
 exact ⟨rfl,rfl⟩
end Go.Proofs
