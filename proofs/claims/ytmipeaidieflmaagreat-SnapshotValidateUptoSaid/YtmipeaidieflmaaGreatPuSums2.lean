/- Pu: chapter 08: the laws of sums and squares. -/
import Derived.Test.YtmipeaidieflmaaGreatPuSums
set_option linter.unusedVariables false
set_option linter.unusedSimpArgs false
set_option linter.unnecessarySimpa false
set_option linter.unusedSectionVars false
namespace Go.Win
open Go.Vc Go.Dec
def nT:List api_Wide→List Bool→Int
 |w::ws,b::bs=>(if b then wv w else 0)+nT ws bs
 |_,_=>0
theorem ck_pos {α:Type} {b:Bool} {k:Option α} (h:b=true):ck b k=k:=by rw [h];rfl
end Go.Win
