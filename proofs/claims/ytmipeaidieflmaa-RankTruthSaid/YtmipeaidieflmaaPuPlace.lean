/- Pu: chapter 21: the entry for a rank; it is near. -/
import Derived.Test.YtmipeaidieflmaaPuRankOf
set_option linter.unusedVariables false
set_option linter.unusedSimpArgs false
set_option linter.unnecessarySimpa false
set_option linter.unusedSectionVars false
namespace Go.Win
open Go.Vc Go.Dec

/-- The next entry is nearer to rank n. -/
def crit (l : List api_Entry) (n : Int) (j : Nat) : Prop := (ent l (j + 1)).Max + (ent l j).Min < 2 * n

/-- How far an entry is from a rank. -/
def farE (e : api_Entry) (n : Int) : Int := imax (n - e.Min) (e.Max - n)

theorem le_imax (a b : Int) : a ≤ imax a b ∧ b ≤ imax a b := by
  show a ≤ (if b > a then b else a) ∧ b ≤ (if b > a then b else a)
  split <;> omega
theorem imax_lt {a b c : Int} : imax a b < c ↔ a < c ∧ b < c := by
  show (if b > a then b else a) < c ↔ _
  split <;> omega

section
variable {l : List api_Entry} {N : Int} (h : OkR l N)
include h

theorem up_lt : ∀ {i j : Nat}, i < j → j < l.length → (ent l i).V ≤ (ent l j).V ∧ (ent l i).Min < (ent l j).Min ∧ (ent l i).Max < (ent l j).Max := by
  intro i j hij hj
  induction j with
  | zero => omega
  | succ j ih =>
    have h1 := h.up j hj
    rcases Nat.lt_or_ge i j with hlt | hge
    · have := ih hlt (by omega)
      omega
    · have : i = j := by omega
      subst this
      exact h1

theorem crit_far {n : Int} {j : Nat} (hj : j + 1 < l.length) : crit l n j ↔ farE (ent l (j + 1)) n < farE (ent l j) n := by
  have h1 := h.up j hj
  have h2 := le_imax (n - (ent l j).Min) ((ent l j).Max - n)
  unfold crit farE
  rw [imax_lt]
  constructor
  · intro hc; omega
  · rintro ⟨g1, g2⟩
    by_cases hm : imax (n - (ent l j).Min) ((ent l j).Max - n) ≤ n - (ent l j).Min
    · omega
    · have : imax (n - (ent l j).Min) ((ent l j).Max - n) = (ent l j).Max - n := by
        show (if _ > _ then _ else _) = _
        split
        · rfl
        · rename_i hh
          exfalso
          apply hm
          show (if _ > _ then _ else _) ≤ _
          rw [if_neg hh]
          omega
      omega

theorem crit_mono {n : Int} {j k : Nat} (hjk : j ≤ k) (hk : k + 1 < l.length) (hc : crit l n k) : crit l n j := by
  rcases Nat.lt_or_ge j k with hlt | hge
  · have h1 := up_lt h hlt (by omega)
    have h2 := up_lt h (show j + 1 < k + 1 by omega) hk
    unfold crit at hc ⊢
    omega
  · have : j = k := by omega
    subst this
    exact hc

omit h in
theorem crit_up {n n' : Int} {j : Nat} (hn : n ≤ n') (hc : crit l n j) : crit l n' j := by
  unfold crit at hc ⊢; omega

/-- The place of a rank. -/
structure Place (l : List api_Entry) (n : Int) (k : Nat) : Prop where
  lt : k < l.length
  low : ∀ j, j < k → crit l n j
  stop : k + 1 < l.length → ¬ crit l n k

omit h in
theorem place_unique {n : Int} {k k' : Nat} (hk : Place l n k) (hk' : Place l n k') : k = k' := by
  rcases Nat.lt_trichotomy k k' with hlt | rfl | hgt
  · exact absurd (hk'.low k hlt) (hk.stop (by have := hk'.lt; omega))
  · rfl
  · exact absurd (hk.low k' hgt) (hk'.stop (by have := hk.lt; omega))

omit h in
theorem place_mono {n n' : Int} {k k' : Nat} (hn : n ≤ n') (hk : Place l n k) (hk' : Place l n' k') : k ≤ k' := by
  rcases Nat.lt_or_ge k' k with hlt | hge
  · exact absurd (crit_up hn (hk.low k' hlt)) (hk'.stop (by have := hk.lt; omega))
  · exact hge

theorem rank_far_eq {n : Int} (hn : 1 ≤ n ∧ n ≤ N) {i : Nat} (hi : i < l.length) : rank_far (ent l i) n = farE (ent l i) n := by
  have h1 := h.rng i hi
  have h2 := h.n1
  unfold rank_far farE
  rw [w64_id (by omega) (by omega), w64_id (by omega) (by omega)]

theorem rank_place_spec {n : Int} (hn : 1 ≤ n ∧ n ≤ N) (hl : l.length ≤ 1048576) {f : Nat} (hf : f < l.length) (hlow : ∀ j, j < f → crit l n j) : ∃ k, f ≤ k ∧ Place l n k ∧ rank_place l n (f : Int) = some (k : Int) := by
  have hm : l.length ≤ maxLen := by rw [maxLen_eq]; omega
  unfold rank_place rank_place_l2
  obtain ⟨r, hr, k, h1, h2, hQ⟩ := loop_ind (f := fun s : Int => rank_place_l2s l n s)
    (fun s => ∃ k : Nat, f ≤ k ∧ k < l.length ∧ (∀ j, j < k → crit l n j) ∧ s = (k : Int))
    (fun s => l.length - s.toNat) (fun r => ∃ k, f ≤ k ∧ Place l n k ∧ r = (k : Int)) (f : Int) ⟨f, Nat.le_refl _, hf, hlow, rfl⟩ (by
      rintro _ ⟨k, hfk, hk, hlw, rfl⟩
      unfold rank_place_l2s
      have e1 : w64 ((k : Int) + 1) = ((k + 1 : Nat) : Int) := by rw [maxLen_eq] at hm; rw [w64_id] <;> omega
      rw [e1]
      by_cases hlt : k + 1 < l.length
      · rw [decide_eq_true (by omega : ((k + 1 : Nat) : Int) < (l.length : Int)), gd_true, gd_true, ent_idx hlt, ent_idx hk]
        simp only [Option.bind_some, Bool.true_and]
        rw [rank_far_eq h hn hlt, rank_far_eq h hn hk]
        by_cases hc : crit l n k
        · left
          rw [decide_eq_true ((crit_far h hlt).1 hc), cond_true]
          refine ⟨_, rfl, ⟨k + 1, by omega, hlt, fun j hj => ?_, rfl⟩, by show l.length - (((k + 1 : Nat) : Int)).toNat < l.length - (k : Int).toNat; omega⟩
          exact crit_mono h (by omega) hlt hc
        · right
          rw [decide_eq_false (fun hx => hc ((crit_far h hlt).2 hx)), cond_false]
          exact ⟨_, rfl, k, hfk, ⟨hk, hlw, fun _ => hc⟩, rfl⟩
      · right
        rw [decide_eq_false (by omega : ¬ ((k + 1 : Nat) : Int) < (l.length : Int))]
        simp only [gd_false, Option.bind_some, Bool.false_and, cond_false]
        exact ⟨_, rfl, k, hfk, ⟨hk, hlw, fun hx => absurd hx hlt⟩, rfl⟩)
  exact ⟨k, h1, h2, by rw [hr, hQ]⟩

theorem far_low {n : Int} {k : Nat} (hk : k < l.length) (hlow : ∀ j, j < k → crit l n j) : ∀ j, j < k → farE (ent l k) n < farE (ent l j) n := by
  intro j hj
  induction k with
  | zero => omega
  | succ k ih =>
    have h1 := (crit_far h hk).1 (hlow k (by omega))
    rcases Nat.lt_or_ge j k with hlt | hge
    · have := ih (by omega) (fun j hj => hlow j (by omega)) hlt
      omega
    · have : j = k := by omega
      subst this
      exact h1

theorem far_high {n : Int} {k : Nat} (hstop : k + 1 < l.length → ¬ crit l n k) : ∀ j, k ≤ j → j < l.length → farE (ent l k) n ≤ farE (ent l j) n := by
  intro j hkj hj
  induction j with
  | zero => have : k = 0 := by omega
            subst this; exact Int.le_refl _
  | succ j ih =>
    rcases Nat.lt_or_ge k (j + 1) with hlt | hge
    · have h1 := ih (by omega) (by omega)
      have h2 : ¬ crit l n j := fun hc => hstop (by omega) (crit_mono h (by omega) hj hc)
      have h3 : ¬ farE (ent l (j + 1)) n < farE (ent l j) n := fun hx => h2 ((crit_far h hj).2 hx)
      omega
    · have : k = j + 1 := by omega
      subst this
      exact Int.le_refl _

theorem ref_for_spec {n : Int} (hn : 1 ≤ n ∧ n ≤ N) (hl : l.length ≤ 1048576) {k : Nat} (hk : Place l n k) : ref20_For l n = some (k : Int) := by
  have hm : l.length ≤ maxLen := by rw [maxLen_eq]; omega
  have h0 : 0 < l.length := by have := hk.lt; omega
  have fr : ∀ i, i < l.length → imax (w64 (n - (ent l i).Min)) (w64 ((ent l i).Max - n)) = farE (ent l i) n := fun i hi => rank_far_eq h hn hi
  unfold ref20_For ref20_For_l2
  obtain ⟨r, hr, hQ⟩ := loop_ind (f := fun s : Int × Int => ref20_For_l2s l n s.1 s.2)
    (fun s => ∃ b i : Nat, i ≤ l.length ∧ b < l.length ∧ (∀ j, j < i → farE (ent l b) n ≤ farE (ent l j) n) ∧ (∀ j, j < b → farE (ent l b) n < farE (ent l j) n) ∧ s = ((b : Int), (i : Int)))
    (fun s => l.length - s.2.toNat) (fun r => r = (k : Int)) (0, 0) ⟨0, 0, Nat.zero_le _, h0, fun j hj => by omega, fun j hj => by omega, rfl⟩ (by
      rintro _ ⟨b, i, hi, hb, h1, h2, rfl⟩
      simp only
      unfold ref20_For_l2s
      by_cases hlt : i < l.length
      · left
        simp only [Int.ofNat_lt, hlt, decide_true, cond_true, ent_idx hlt, ent_idx hb, Option.bind_some, succ_nat hlt hm]
        rw [fr i hlt, fr b hb]
        by_cases hc : farE (ent l i) n < farE (ent l b) n
        · rw [decide_eq_true hc, cond_true]
          refine ⟨_, rfl, ⟨i, i + 1, hlt, hlt, fun j hj => ?_, fun j hj => ?_, rfl⟩, by show l.length - ((i : Int) + 1).toNat < l.length - (i : Int).toNat; omega⟩
          · rcases Nat.lt_or_ge j i with g | g
            · have := h1 j g; omega
            · have : j = i := by omega
              subst this; exact Int.le_refl _
          · have := h1 j hj; omega
        · rw [decide_eq_false hc, cond_false]
          refine ⟨_, rfl, ⟨b, i + 1, hlt, hb, fun j hj => ?_, h2, rfl⟩, by show l.length - ((i : Int) + 1).toNat < l.length - (i : Int).toNat; omega⟩
          rcases Nat.lt_or_ge j i with g | g
          · exact h1 j g
          · have : j = i := by omega
            subst this; omega
      · right
        have hi2 : i = l.length := by omega
        subst hi2
        rw [decide_eq_false (by omega), cond_false]
        refine ⟨_, rfl, ?_⟩
        have g1 := far_low h hk.lt hk.low
        have g2 := far_high h hk.stop
        rcases Nat.lt_trichotomy b k with hbk | rfl | hbk
        · have a1 := g1 b hbk
          have a2 := h1 k hk.lt
          omega
        · rfl
        · have a1 := h2 k hbk
          have a2 := g2 b (by omega) hb
          omega)
  rw [hr, hQ]

omit h in
theorem gapTo_ge : ∀ m : Nat, 1 ≤ gapTo l m ∧ ∀ i, 1 ≤ i → i < m → (ent l i).Max - (ent l (i - 1)).Min ≤ gapTo l m := by
  intro m
  induction m with
  | zero => exact ⟨Int.le_refl _, fun i _ hi => by omega⟩
  | succ m ih =>
    unfold gapTo
    by_cases h0 : m = 0
    · rw [if_pos h0]
      exact ⟨Int.le_refl _, fun i _ hi => by omega⟩
    · rw [if_neg h0]
      refine ⟨by split <;> omega, fun i h1 hi => ?_⟩
      rcases Nat.lt_or_ge i m with hlt | hge
      · have := ih.2 i h1 hlt
        split <;> omega
      · have : i = m := by omega
        subst this
        split <;> omega

theorem place_near {n : Int} (hn : 1 ≤ n ∧ n ≤ N) {k : Nat} (hk : Place l n k) : 2 * (n - (ent l k).Min) ≤ gapR l ∧ 2 * ((ent l k).Max - n) ≤ gapR l := by
  have hlt := hk.lt
  have hg : gapR l = gapTo l l.length := by unfold gapR; rw [if_neg (by omega)]
  obtain ⟨g1, g2⟩ := gapTo_ge (l := l) l.length
  rw [hg]
  constructor
  · by_cases h1 : k + 1 < l.length
    · have hc := hk.stop h1
      have := g2 (k + 1) (by omega) h1
      rw [Nat.add_sub_cancel] at this
      unfold crit at hc
      omega
    · have hl := h.last (by omega)
      rw [show l.length - 1 = k by omega] at hl
      omega
  · by_cases h1 : 0 < k
    · have hc := hk.low (k - 1) (by omega)
      have := g2 k (by omega) hlt
      unfold crit at hc
      rw [show k - 1 + 1 = k by omega] at hc
      omega
    · have hk0 : k = 0 := by omega
      subst hk0
      have hf := h.first (by omega)
      omega
end

theorem place_first {l : List api_Entry} {N n : Int} (h : OkR l N) (hn : 1 ≤ n ∧ n ≤ N) (hl : l.length ≤ 1048576) : ∃ k, Place l n k ∧ rank_place l n 0 = some (k : Int) ∧ ref20_For l n = some (k : Int) := by
  have h0 : 0 < l.length := by
    rcases Nat.eq_zero_or_pos l.length with h0 | h0
    · have := h.nil.1 h0; omega
    · exact h0
  obtain ⟨k, _, h2, h3⟩ := rank_place_spec h hn hl h0 (fun j hj => by omega)
  exact ⟨k, h2, h3, ref_for_spec h hn hl h2⟩

end Go.Win

