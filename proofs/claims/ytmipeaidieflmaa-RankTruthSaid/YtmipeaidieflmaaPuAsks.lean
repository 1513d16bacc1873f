/- Pu: chapter 21: the answers of a summary. -/
import Derived.Test.YtmipeaidieflmaaPuPlace
import Derived.Test.YtmipeaidieflmaaPuDivP
set_option linter.unusedVariables false
set_option linter.unusedSimpArgs false
set_option linter.unnecessarySimpa false
set_option linter.unusedSectionVars false
namespace Go.Win
open Go.Vc Go.Dec

/-- The first m entries are not greater than v, the others are. -/
theorem split_at {l : List api_Entry} {N : Int} (h : OkR l N) (v : Int) : ∃ m, m ≤ l.length ∧ (∀ i, i < m → (ent l i).V ≤ v) ∧ ∀ i, m ≤ i → i < l.length → v < (ent l i).V := by
  have key : ∀ m, m ≤ l.length → (∃ k, k ≤ m ∧ (∀ i, i < k → (ent l i).V ≤ v) ∧ ∀ i, k ≤ i → i < m → v < (ent l i).V) := by
    intro m
    induction m with
    | zero => intro _; exact ⟨0, Nat.le_refl _, fun i hi => by omega, fun i _ hi => by omega⟩
    | succ m ih =>
      intro hm
      obtain ⟨k, k1, k2, k3⟩ := ih (by omega)
      by_cases hv : (ent l m).V ≤ v
      · have : k = m := by
          rcases Nat.lt_or_ge k m with hlt | hge
          · have := k3 k (Nat.le_refl _) hlt
            have := (up_lt h hlt (by omega)).1
            omega
          · omega
        subst this
        refine ⟨k + 1, Nat.le_refl _, fun i hi => ?_, fun i h1 h2 => by omega⟩
        rcases Nat.lt_or_ge i k with g | g
        · exact k2 i g
        · have : i = k := by omega
          subst this; exact hv
      · refine ⟨k, by omega, k2, fun i h1 h2 => ?_⟩
        rcases Nat.lt_or_ge i m with g | g
        · exact k3 i h1 g
        · have : i = m := by omega
          subst this; omega
  exact key l.length (Nat.le_refl _)

/-- The bounds. -/
def loAt (l : List api_Entry) (m : Nat) : Int := if m = 0 then 0 else (ent l (m - 1)).Min
def hiAt (l : List api_Entry) (N : Int) (m : Nat) : Int := if m < l.length then (ent l m).Max - 1 else N

theorem rank_rank_loop {r : api_Ranks} (h : OkR r.Entries r.N) (v : Int) (hl : r.Entries.length ≤ 1048576) {m : Nat} (h1 : m ≤ r.Entries.length) (h2 : ∀ i, i < m → (ent r.Entries i).V ≤ v) (h3 : ∀ i, m ≤ i → i < r.Entries.length → v < (ent r.Entries i).V) :
    rank_Rank_l3 r v 0 0 = some ((bounds_Whole (loAt r.Entries m) (hiAt r.Entries r.N m)).1, 0) := by
  have hm : r.Entries.length ≤ maxLen := by rw [maxLen_eq]; omega
  unfold rank_Rank_l3
  obtain ⟨x, hx, hQ⟩ := loop_ind (f := fun s : Int × Int => rank_Rank_l3s r v s.1 s.2)
    (fun s => ∃ i : Nat, i ≤ m ∧ s = (loAt r.Entries i, (i : Int)))
    (fun s => r.Entries.length - s.2.toNat) (fun x => x = ((bounds_Whole (loAt r.Entries m) (hiAt r.Entries r.N m)).1, 0)) (0, 0) ⟨0, Nat.zero_le _, rfl⟩ (by
      rintro _ ⟨i, hi, rfl⟩
      simp only
      unfold rank_Rank_l3s
      by_cases hlt : i < r.Entries.length
      · simp only [Int.ofNat_lt, hlt, decide_true, cond_true, ent_idx hlt, Option.bind_some, succ_nat hlt hm]
        by_cases him : i < m
        · left
          rw [decide_eq_false (by have := h2 i him; omega), cond_false]
          refine ⟨_, rfl, ⟨i + 1, him, ?_⟩, by show r.Entries.length - ((i : Int) + 1).toNat < r.Entries.length - (i : Int).toNat; omega⟩
          unfold loAt
          rw [if_neg (by omega), Nat.add_sub_cancel]
          rfl
        · right
          have : i = m := by omega
          subst this
          rw [decide_eq_true (by have := h3 i (Nat.le_refl _) hlt; omega), cond_true]
          have hr := h.rng i hlt
          have hn := h.n1
          refine ⟨_, rfl, ?_⟩
          unfold hiAt
          rw [if_pos hlt, w64_id (by omega) (by omega)]
      · right
        have : i = m := by omega
        subst this
        rw [decide_eq_false (by omega), cond_false]
        refine ⟨_, rfl, ?_⟩
        unfold hiAt
        rw [if_neg hlt])
  rw [hx, hQ]

theorem bounds_order {l : List api_Entry} {N : Int} (h : OkR l N) {m : Nat} (h1 : m ≤ l.length) : 0 ≤ loAt l m ∧ loAt l m ≤ hiAt l N m ∧ hiAt l N m ≤ N := by
  have n0 := h.n0
  unfold loAt hiAt
  by_cases hm0 : m = 0
  · subst hm0
    rw [if_pos rfl]
    by_cases hl : 0 < l.length
    · rw [if_pos hl, h.first hl]
      have := h.rng 0 hl
      omega
    · rw [if_neg hl]
      omega
  · rw [if_neg hm0]
    have g1 := h.rng (m - 1) (by omega)
    by_cases hl : m < l.length
    · rw [if_pos hl]
      have g2 := h.rng m hl
      have g3 := h.up (m - 1) (by omega)
      rw [show m - 1 + 1 = m by omega] at g3
      omega
    · rw [if_neg hl]
      omega

end Go.Win

