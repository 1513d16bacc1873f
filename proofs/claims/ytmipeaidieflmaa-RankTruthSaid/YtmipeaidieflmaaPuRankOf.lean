/- Pu: chapter 21: the exact summary, as the reference has it. -/
import Derived.Test.YtmipeaidieflmaaPuRank
set_option linter.unusedVariables false
set_option linter.unusedSimpArgs false
set_option linter.unnecessarySimpa false
set_option linter.unusedSectionVars false
namespace Go.Win
open Go.Vc Go.Dec

theorem sortZ_sorted (l : List Int) : (sortZ l).Pairwise (· ≤ ·) := by
  have := List.pairwise_mergeSort (le := fun x y : Int => decide (x ≤ y)) (fun a b c h1 h2 => by simp at *; omega) (fun a b => by simp; omega) l
  unfold sortZ
  refine this.imp ?_
  intro a b h
  simpa using h

theorem sortZ_perm (l : List Int) : (sortZ l).Perm l := List.mergeSort_perm _ _

theorem exE_ok (l : List Int) (hs : l.Pairwise (· ≤ ·)) (hl : l.length ≤ 65536) : okB ⟨(l.length : Int), exE l⟩ = true := by
  rw [okB_iff]
  have hel := exE_length l
  refine ⟨by simp only; omega, by simp only; omega, by simp only; omega, fun i hi => ?_, fun i hi => ?_, fun h0 => ?_, fun h0 => ?_⟩
  · rw [hel] at hi
    rw [exE_ent l hi]
    simp only
    omega
  · rw [hel] at hi
    rw [exE_ent l (by omega), exE_ent l hi]
    refine ⟨List.pairwise_iff_getElem.1 hs i (i + 1) (by omega) hi (by omega), ?_, ?_⟩ <;> (simp only; omega)
  · rw [hel] at h0
    rw [exE_ent l h0]
    rfl
  · rw [hel] at h0 ⊢
    rw [exE_ent l (by omega)]
    simp only
    omega

end Go.Win

