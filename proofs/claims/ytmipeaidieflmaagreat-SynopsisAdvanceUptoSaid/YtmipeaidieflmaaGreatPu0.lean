/- Pu, part 0: loops on plain data; numbers. -/
import Derived.Test.YtmipeaidieflmaaGreatVc
set_option linter.unusedVariables false
set_option linter.unusedSimpArgs false
set_option linter.unnecessarySimpa false
set_option linter.unusedSectionVars false
namespace Go.Win
open Go.Vc Go.Dec
theorem w64_id {n:Int} (h1: -9223372036854775808≤n) (h2:n≤9223372036854775807):w64 n=n:=by
 show IntKind.i64.wrap n=n
 rw [IntKind.wrap_i64];omega
theorem w64_eq (n:Int):w64 n=(n+9223372036854775808)%18446744073709551616-9223372036854775808:=by
 show IntKind.i64.wrap n=_
 rw [IntKind.wrap_i64]
theorem wu64_eq (n:Int):wu64 n=n%18446744073709551616:=by
 show IntKind.u64.wrap n=_
 rw [IntKind.wrap_u64]
theorem loop_all {R:Type} {f:Int→Option (Int⊕R)} {n:Nat} {bad:Nat→Bool} {E:R} {A:Option R}
  (hs: ∀i:Nat,i<n→f i=cond (bad i) (some (.inr E)) (some (.inl ((i:Int)+1)))) (hd:f n=Option.map Sum.inr A):
  loop f 0=cond ((List.range n).any bad) (some E) A:=by
 have key: ∀k i:Nat,i+k=n→loop f i=cond ((List.range' i k).any bad) (some E) A:=by
  intro k
  induction k with
  |zero=>
   intro i hi
   have hi:i=n:=by omega
   subst hi
   rw [loop_eq,hd]
   cases A<;>rfl
  |succ k ih=>
   intro i hi
   rw [loop_eq,hs i (by omega),List.range'_succ,List.any_cons]
   cases hb:bad i with
   |true=>rfl
   |false=>
    have:=ih (i+1) (by omega)
    simpa using this
 have:=key n 0 (by omega)
 rw [←List.range_eq_range'] at this
 exact this
theorem loop_fold {S R β:Type} {f:S→Option (S⊕R)} (st:Nat→β→S) (n:Nat) (g:Nat→β→β) (A:β→Option R)
  (hs: ∀(i:Nat) (b:β),i<n→f (st i b)=some (.inl (st (i+1) (g i b)))) (hd: ∀b,f (st n b)=Option.map Sum.inr (A b)) (b:β):
  loop f (st 0 b)=A ((List.range n).foldl (fun b i=>g i b) b):=by
 have key: ∀k i:Nat,∀b,i+k=n→loop f (st i b)=A ((List.range' i k).foldl (fun b i=>g i b) b):=by
  intro k
  induction k with
  |zero=>
   intro i b hi
   have hi:i=n:=by omega
   subst hi
   rw [loop_eq,hd]
   simp only [List.range'_zero,List.foldl_nil]
   cases A b<;>rfl
  |succ k ih=>
   intro i b hi
   rw [loop_eq,hs i b (by omega),List.range'_succ,List.foldl_cons]
   exact ih (i+1) _ (by omega)
 have:=key n 0 b (by omega)
 rw [←List.range_eq_range'] at this
 exact this
theorem loop_foldI {S R β:Type} {f:S→Option (S⊕R)} (st:Nat→β→S) (n:Nat) (I:Nat→β→Prop) (g:Nat→β→β) (A:β→Option R)
  (hs: ∀(i:Nat) (b:β),i<n→I i b→f (st i b)=some (.inl (st (i+1) (g i b)))∧I (i+1) (g i b)) (hd: ∀b,I n b→f (st n b)=Option.map Sum.inr (A b)) (b:β) (h0:I 0 b):
  loop f (st 0 b)=A ((List.range n).foldl (fun b i=>g i b) b)∧I n ((List.range n).foldl (fun b i=>g i b) b):=by
 have key: ∀k i:Nat,∀b,i+k=n→I i b→loop f (st i b)=A ((List.range' i k).foldl (fun b i=>g i b) b)∧I n ((List.range' i k).foldl (fun b i=>g i b) b):=by
  intro k
  induction k with
  |zero=>
   intro i b hi hb
   have hi:i=n:=by omega
   subst hi
   rw [loop_eq,hd b hb]
   simp only [List.range'_zero,List.foldl_nil]
   exact ⟨by (cases A b<;>rfl),hb⟩
  |succ k ih=>
   intro i b hi hb
   obtain ⟨h1,h2⟩:=hs i b (by omega) hb
   rw [loop_eq,h1,List.range'_succ,List.foldl_cons]
   exact ih (i+1) _ (by omega) h2
 have:=key n 0 b (by omega) h0
 rw [←List.range_eq_range'] at this
 exact this
theorem any_iff {n:Nat} {p:Nat→Bool}:(List.range n).any p=true↔ ∃i,i<n∧p i=true:=by
 simp [List.any_eq_true]
theorem maxLen_eq:maxLen=9223372036854775807:=rfl
end Go.Win
