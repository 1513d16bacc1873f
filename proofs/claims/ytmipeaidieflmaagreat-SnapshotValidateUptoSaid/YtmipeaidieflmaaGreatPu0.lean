/- Pu, part 0: loops on plain data; numbers. -/
import Derived.Test.YtmipeaidieflmaaGreatVc
set_option linter.unusedVariables false
set_option linter.unusedSimpArgs false
set_option linter.unnecessarySimpa false
set_option linter.unusedSectionVars false
namespace Go.Win
open Go.Vc Go.Dec
theorem w64_id {n:Int} (h1: -9223372036854775808≤n) (h2:n≤9223372036854775807):w64 n=n:=by
 show IntKind.i64.wrap n=n
 rw [IntKind.wrap_i64];omega
theorem w64_eq (n:Int):w64 n=(n+9223372036854775808)%18446744073709551616-9223372036854775808:=by
 show IntKind.i64.wrap n=_
 rw [IntKind.wrap_i64]
theorem wu64_eq (n:Int):wu64 n=n%18446744073709551616:=by
 show IntKind.u64.wrap n=_
 rw [IntKind.wrap_u64]
theorem loop_all {R:Type} {f:Int→Option (Int⊕R)} {n:Nat} {bad:Nat→Bool} {E:R} {A:Option R}
  (hs: ∀i:Nat,i<n→f i=cond (bad i) (some (.inr E)) (some (.inl ((i:Int)+1)))) (hd:f n=Option.map Sum.inr A):
  loop f 0=cond ((List.range n).any bad) (some E) A:=by
 have key: ∀k i:Nat,i+k=n→loop f i=cond ((List.range' i k).any bad) (some E) A:=by
  intro k
  induction k with
  |zero=>
   intro i hi
   have hi:i=n:=by omega
   subst hi
   rw [loop_eq,hd]
   cases A<;>rfl
  |succ k ih=>
   intro i hi
   rw [loop_eq,hs i (by omega),List.range'_succ,List.any_cons]
   cases hb:bad i with
   |true=>rfl
   |false=>
    have:=ih (i+1) (by omega)
    simpa using this
 have:=key n 0 (by omega)
 rw [←List.range_eq_range'] at this
 exact this
theorem any_iff {n:Nat} {p:Nat→Bool}:(List.range n).any p=true↔ ∃i,i<n∧p i=true:=by
 simp [List.any_eq_true]
theorem maxLen_eq:maxLen=9223372036854775807:=rfl
end Go.Win
