/- Pu: chapter 08: ranks of values and the value of a rank. -/
import Derived.Test.YtpclnmpmammlfaaPuAsks
namespace Go.Win
open Go.Vc Go.Dec

/-! ### Counting -/

def vals (l : List api_Item) : List Int := l.map fun p => p.V

theorem vals_length (l : List api_Item) : (vals l).length = l.length := List.length_map _

/-- How many are not greater than v; how many are less. -/
def cLe (l : List Int) (v : Int) : Nat := l.countP fun x => decide (x ≤ v)
def cLt (l : List Int) (v : Int) : Nat := l.countP fun x => decide (x < v)

theorem cLe_le (l : List Int) (v : Int) : cLe l v ≤ l.length := List.countP_le_length
theorem cLt_le (l : List Int) (v : Int) : cLt l v ≤ l.length := List.countP_le_length

theorem vals_step (l : List api_Item) {i : Nat} (hi : i < l.length) : vals (l.take (i + 1)) = vals (l.take i) ++ [l[i].V] := by
  unfold vals
  rw [List.take_succ_eq_append_getElem hi, List.map_append]
  rfl

theorem exact_rank (l : List api_Item) (v : Int) (hl : l.length ≤ 100000) : exact_Rank l v = some (cLe (vals l) v : Int) := by
  have hm : l.length ≤ maxLen := by rw [maxLen_eq]; omega
  unfold exact_Rank exact_Rank_l2
  obtain ⟨r, hr, hQ⟩ := loop_ind (f := fun s : Int × Int => exact_Rank_l2s l v s.1 s.2)
    (fun s => ∃ i : Nat, i ≤ l.length ∧ s = ((cLe (vals (l.take i)) v : Int), (i : Int)))
    (fun s => l.length - s.2.toNat) (fun r => r = (cLe (vals l) v : Int)) (0, 0) ⟨0, Nat.zero_le _, rfl⟩ (by
      rintro _ ⟨i, hi, rfl⟩
      simp only
      unfold exact_Rank_l2s
      by_cases hlt : i < l.length
      · left
        have hc := cLe_le (vals (l.take i)) v
        rw [vals_length, List.length_take] at hc
        simp only [Int.ofNat_lt, hlt, decide_true, cond_true, idx_nat, get_some hlt, Option.bind_some, succ_nat hlt hm]
        have hs : cLe (vals (l.take (i + 1))) v = cLe (vals (l.take i)) v + (if l[i].V ≤ v then 1 else 0) := by
          rw [vals_step l hlt]; unfold cLe; rw [List.countP_append, List.countP_singleton]; simp
        by_cases hv : l[i].V ≤ v
        · rw [decide_eq_true hv, cond_true, w64_id (by omega) (by omega)]
          rw [if_pos hv] at hs
          exact ⟨_, rfl, ⟨i + 1, hlt, by rw [hs]; simp⟩, by show l.length - ((i : Int) + 1).toNat < l.length - (i : Int).toNat; omega⟩
        · rw [decide_eq_false hv, cond_false]
          rw [if_neg hv] at hs
          exact ⟨_, rfl, ⟨i + 1, hlt, by rw [hs]; simp⟩, by show l.length - ((i : Int) + 1).toNat < l.length - (i : Int).toNat; omega⟩
      · right
        have : i = l.length := by omega
        subst this
        rw [List.take_length, decide_eq_false (by omega), cond_false]
        exact ⟨_, rfl, rfl⟩)
  rw [hr, hQ]

theorem exact_below (l : List api_Item) (v : Int) (hl : l.length ≤ 100000) : exact_Below l v = some (cLt (vals l) v : Int) := by
  have hm : l.length ≤ maxLen := by rw [maxLen_eq]; omega
  unfold exact_Below exact_Below_l2
  obtain ⟨r, hr, hQ⟩ := loop_ind (f := fun s : Int × Int => exact_Below_l2s l v s.1 s.2)
    (fun s => ∃ i : Nat, i ≤ l.length ∧ s = ((cLt (vals (l.take i)) v : Int), (i : Int)))
    (fun s => l.length - s.2.toNat) (fun r => r = (cLt (vals l) v : Int)) (0, 0) ⟨0, Nat.zero_le _, rfl⟩ (by
      rintro _ ⟨i, hi, rfl⟩
      simp only
      unfold exact_Below_l2s
      by_cases hlt : i < l.length
      · left
        have hc := cLt_le (vals (l.take i)) v
        rw [vals_length, List.length_take] at hc
        simp only [Int.ofNat_lt, hlt, decide_true, cond_true, idx_nat, get_some hlt, Option.bind_some, succ_nat hlt hm]
        have hs : cLt (vals (l.take (i + 1))) v = cLt (vals (l.take i)) v + (if l[i].V < v then 1 else 0) := by
          rw [vals_step l hlt]; unfold cLt; rw [List.countP_append, List.countP_singleton]; simp
        by_cases hv : l[i].V < v
        · rw [decide_eq_true hv, cond_true, w64_id (by omega) (by omega)]
          rw [if_pos hv] at hs
          exact ⟨_, rfl, ⟨i + 1, hlt, by rw [hs]; simp⟩, by show l.length - ((i : Int) + 1).toNat < l.length - (i : Int).toNat; omega⟩
        · rw [decide_eq_false hv, cond_false]
          rw [if_neg hv] at hs
          exact ⟨_, rfl, ⟨i + 1, hlt, by rw [hs]; simp⟩, by show l.length - ((i : Int) + 1).toNat < l.length - (i : Int).toNat; omega⟩
      · right
        have : i = l.length := by omega
        subst this
        rw [List.take_length, decide_eq_false (by omega), cond_false]
        exact ⟨_, rfl, rfl⟩)
  rw [hr, hQ]

theorem ref_rank8 : @ref08_Rank = @exact_Rank := rfl
theorem ref_below8 : @ref08_Below = @exact_Below := rfl

/-! ### The value of a rank, of a row in order -/

theorem sorted_counts {s : List Int} (hs : s.Pairwise (· ≤ ·)) {k : Nat} (hk : k < s.length) : cLt s s[k] ≤ k ∧ k + 1 ≤ cLe s s[k] := by
  have hg := List.pairwise_iff_getElem.1 hs
  constructor
  · have e : s = s.take k ++ s.drop k := (List.take_append_drop k s).symm
    have hz : cLt (s.drop k) s[k] = 0 := by
      unfold cLt
      rw [List.countP_eq_zero]
      intro x hx
      obtain ⟨j, hj, rfl⟩ := List.mem_iff_getElem.1 hx
      rw [List.length_drop] at hj
      rw [List.getElem_drop]
      rcases Nat.eq_zero_or_pos j with h0 | h0
      · subst h0; simp
      · have := hg k (k + j) hk (by omega) (by omega)
        simp
        omega
    have : cLt s s[k] = cLt (s.take k) s[k] + cLt (s.drop k) s[k] := by
      unfold cLt
      rw [← List.countP_append, List.take_append_drop]
    have h2 := cLt_le (s.take k) s[k]
    rw [List.length_take] at h2
    omega
  · have h1 : cLe (s.take (k + 1)) s[k] = k + 1 := by
      unfold cLe
      have : (s.take (k + 1)).countP (fun x => decide (x ≤ s[k])) = (s.take (k + 1)).length := by
        rw [List.countP_eq_length]
        intro x hx
        obtain ⟨j, hj, rfl⟩ := List.mem_iff_getElem.1 hx
        rw [List.length_take] at hj
        rw [List.getElem_take, decide_eq_true_eq]
        rcases Nat.lt_or_ge j k with h0 | h0
        · exact hg j k (by omega) hk h0
        · have : j = k := by omega
          subst this; exact Int.le_refl _
      rw [this, List.length_take]
      omega
    have : cLe s s[k] = cLe (s.take (k + 1)) s[k] + cLe (s.drop (k + 1)) s[k] := by
      unfold cLe
      rw [← List.countP_append, List.take_append_drop]
    omega

theorem cLe_cLt {l : List Int} {a b : Int} (h : a < b) : cLe l a ≤ cLt l b := by
  unfold cLe cLt
  refine List.countP_mono_left fun x _ hx => ?_
  simp only [decide_eq_true_eq] at hx ⊢
  omega

/-- The only value of rank t. -/
theorem rank_value {l : List Int} {t : Nat} (ht1 : 1 ≤ t) (ht2 : t ≤ l.length) (v : Int) :
    (cLt l v < t ∧ t ≤ cLe l v) ↔ v = (sortZ l)[t - 1]'(by rw [sortZ_length]; omega) := by
  have hk : t - 1 < (sortZ l).length := by rw [sortZ_length]; omega
  obtain ⟨h1, h2⟩ := sorted_counts (sortZ_sorted l) hk
  have p1 : ∀ w, cLt (sortZ l) w = cLt l w := fun w => (sortZ_perm l).countP_eq _
  have p2 : ∀ w, cLe (sortZ l) w = cLe l w := fun w => (sortZ_perm l).countP_eq _
  rw [p1] at h1
  rw [p2] at h2
  generalize hw : (sortZ l)[t - 1] = w at *
  constructor
  · rintro ⟨g1, g2⟩
    rcases Int.lt_trichotomy v w with hlt | rfl | hgt
    · have := cLe_cLt (l := l) hlt; omega
    · rfl
    · have := cLe_cLt (l := l) hgt; omega
  · rintro rfl
    omega

theorem exact_quantile_loop (l : List api_Item) (t : Int) (hl : l.length ≤ 1000) (ht1 : 0 ≤ t) (ht2 : t ≤ l.length) (h0 : 0 < l.length) {T : Nat} (hT : (T : Int) = if t < 1 then 1 else t) :
    exact_Quantile_j2 l t = some ((sortZ (vals l)).getD (T - 1) 0, true) := by
  have hm : l.length ≤ maxLen := by rw [maxLen_eq]; omega
  unfold exact_Quantile_j2 exact_Quantile_l4
  obtain ⟨r, hr, hQ⟩ := loop_ind (f := fun s : List Int × Int => exact_Quantile_l4s l t s.1 s.2)
    (fun s => ∃ i : Nat, i ≤ l.length ∧ s = (vals (l.take i), (i : Int)))
    (fun s => l.length - s.2.toNat) (fun r => r = ((sortZ (vals l)).getD (T - 1) 0, true)) ([], 0) ⟨0, Nat.zero_le _, rfl⟩ (by
      rintro _ ⟨i, hi, rfl⟩
      simp only
      unfold exact_Quantile_l4s
      by_cases hlt : i < l.length
      · left
        simp only [Int.ofNat_lt, hlt, decide_true, cond_true, idx_nat, get_some hlt, Option.bind_some, succ_nat hlt hm]
        rw [ck_pos (by rw [decide_eq_true_eq, vals_length, List.length_take, List.length_singleton]; omega)]
        refine ⟨_, rfl, ⟨i + 1, hlt, ?_⟩, by show l.length - ((i : Int) + 1).toNat < l.length - (i : Int).toNat; omega⟩
        rw [vals_step l hlt]
        rfl
      · right
        have : i = l.length := by omega
        subst this
        rw [List.take_length, decide_eq_false (by omega), cond_false, ck_pos (by rw [decide_eq_true_eq, vals_length]; omega)]
        have e1 : w64 t = t := by rw [w64_id] <;> omega
        have e2 : imax t 1 = (T : Int) := by
          show (if (1 : Int) > t then 1 else t) = _
          rw [hT]
        have hT1 : 1 ≤ T ∧ T ≤ l.length := by split at hT <;> omega
        have e3 : w64 ((T : Int) - 1) = ((T - 1 : Nat) : Int) := by rw [w64_id] <;> omega
        have hlt2 : T - 1 < (sortZ (vals l)).length := by rw [sortZ_length, vals_length]; omega
        rw [e1, e2, e3, idx_nat, get_some hlt2]
        refine ⟨_, rfl, ?_⟩
        simp [List.getD_eq_getElem?_getD, get_some hlt2])
  rw [hr, hQ]

theorem ref_quantile_loop (l : List api_Item) (hl : l.length ≤ 1000) {T : Nat} (hT1 : 1 ≤ T) (hT2 : T ≤ l.length) : ref08_Quantile_l3 l (T : Int) 0 = some ((sortZ (vals l)).getD (T - 1) 0, true) := by
  have hm : l.length ≤ maxLen := by rw [maxLen_eq]; omega
  have hk : T - 1 < (sortZ (vals l)).length := by rw [sortZ_length, vals_length]; omega
  have hgd : (sortZ (vals l)).getD (T - 1) 0 = (sortZ (vals l))[T - 1] := by simp [List.getD_eq_getElem?_getD, get_some hk]
  have hval : ∀ v, (cLt (vals l) v < T ∧ T ≤ cLe (vals l) v) ↔ v = (sortZ (vals l))[T - 1] := fun v => rank_value hT1 (by rw [vals_length]; exact hT2) v
  -- it is among the items
  have hmem : (sortZ (vals l))[T - 1] ∈ vals l := (sortZ_perm (vals l)).mem_iff.1 (List.getElem_mem hk)
  obtain ⟨k, hk2, hke⟩ : ∃ k, ∃ h : k < l.length, l[k].V = (sortZ (vals l))[T - 1] := by
    obtain ⟨p, hp, hpe⟩ := List.mem_map.1 hmem
    obtain ⟨k, hk, rfl⟩ := List.mem_iff_getElem.1 hp
    exact ⟨k, hk, hpe⟩
  unfold ref08_Quantile_l3
  obtain ⟨r, hr, hQ⟩ := loop_ind (f := fun s : Int => ref08_Quantile_l3s l (T : Int) s)
    (fun s => ∃ i : Nat, i ≤ k ∧ s = (i : Int)) (fun s => k - s.toNat) (fun r => r = ((sortZ (vals l)).getD (T - 1) 0, true)) (0 : Int) ⟨0, Nat.zero_le _, rfl⟩ (by
      rintro _ ⟨i, hi, rfl⟩
      unfold ref08_Quantile_l3s
      have hlt : i < l.length := by omega
      simp only [Int.ofNat_lt, hlt, decide_true, cond_true, idx_nat, get_some hlt, Option.bind_some, succ_nat hlt hm, ref_rank8, ref_below8, exact_rank l _ (show l.length ≤ 100000 by omega), exact_below l _ (show l.length ≤ 100000 by omega)]
      have hiff := hval l[i].V
      by_cases hb : cLt (vals l) l[i].V < T
      · rw [decide_eq_true hb, gd_true]
        simp only [Option.bind_some, Bool.true_and]
        by_cases hr : T ≤ cLe (vals l) l[i].V
        · right
          rw [decide_eq_true (by omega : (cLe (vals l) l[i].V : Int) ≥ (T : Int)), cond_true]
          refine ⟨_, rfl, ?_⟩
          rw [hgd, ← hiff.1 ⟨hb, hr⟩]
        · left
          rw [decide_eq_false (by omega : ¬ (cLe (vals l) l[i].V : Int) ≥ (T : Int)), cond_false]
          have hik : i ≠ k := by
            rintro rfl
            exact hr (hiff.2 hke).2
          exact ⟨_, rfl, ⟨i + 1, by omega, by simp⟩, by show k - ((i : Int) + 1).toNat < k - (i : Int).toNat; omega⟩
      · left
        rw [decide_eq_false hb, gd_false]
        simp only [Option.bind_some, Bool.false_and, cond_false]
        have hik : i ≠ k := by
          rintro rfl
          exact hb (hiff.2 hke).1
        exact ⟨_, rfl, ⟨i + 1, by omega, by simp⟩, by show k - ((i : Int) + 1).toNat < k - (i : Int).toNat; omega⟩)
  rw [hr, hQ]

theorem exact_quantile_eq (l : List api_Item) (p q : Int) (hp : -9223372036854775808 ≤ p ∧ p ≤ 9223372036854775807) (hq : -9223372036854775808 ≤ q ∧ q ≤ 9223372036854775807) (hl : l.length ≤ 1000) :
    exact_Quantile l p q = ref08_Quantile l p q ∧ ∃ x, ref08_Quantile l p q = some x := by
  unfold exact_Quantile ref08_Quantile
  have hasks : (((l.length : Int) == 0) || (!ref08_Asks p q)) = (((((l.length : Int) == 0) || decide (q < 1)) || decide (p < 0)) || decide (p > q)) := by
    unfold ref08_Asks
    rw [Bool.eq_iff_iff]
    simp only [Bool.not_eq_true', Bool.and_eq_false_iff, decide_eq_false_iff_not, Bool.or_eq_true, decide_eq_true_eq, beq_iff_eq]
    omega
  simp only [hasks]
  cases hc : (((((l.length : Int) == 0) || decide (q < 1)) || decide (p < 0)) || decide (p > q)) with
  | true => exact ⟨rfl, _, rfl⟩
  | false =>
    simp only [Bool.or_eq_false_iff, decide_eq_false_iff_not, beq_eq_false_iff_ne] at hc
    obtain ⟨lo, rem, d1, d2, _, _, l0, l1, l2, r0, r1⟩ := target_eq (p := p) (q := q) (n := (l.length : Int)) (by omega) (by omega) (by omega) (by omega) (by omega) (by omega)
    unfold ref08_Target
    simp only [cond_false, d1, d2, Option.bind_some]
    have hz : (!((ofW rem).Hi == 0 && ((ofW rem).Lo == 0 && true))) = decide (rem ≠ 0) := by
      have g1 : wv (ofW rem) = rem := wv_ofW rem
      unfold ofW at *
      unfold wv at g1
      rw [Bool.eq_iff_iff]
      simp only [Bool.and_true, Bool.not_eq_true', Bool.and_eq_false_iff, beq_eq_false_iff_ne, decide_eq_true_eq]
      simp only at g1
      omega
    rw [hz]
    by_cases hr : rem = 0
    · rw [decide_eq_false (by simpa using hr)]
      simp only [cond_false, Option.bind_some]
      have e1 : w64 lo = lo := by rw [w64_id] <;> omega
      rw [e1]
      obtain ⟨T, hT⟩ := Int.eq_ofNat_of_zero_le (show 0 ≤ imax 1 lo by rw [imax_one]; split <;> omega)
      have hT' : (T : Int) = if lo < 1 then 1 else lo := by rw [← hT, imax_one]
      rw [hT, exact_quantile_loop l lo hl l0 l1 (by omega) hT', ref_quantile_loop l hl (T := T) (by split at hT' <;> omega) (by split at hT' <;> omega)]
      exact ⟨rfl, _, rfl⟩
    · rw [decide_eq_true (by simpa using hr)]
      have l3 := l2 hr
      simp only [cond_true, Option.bind_some]
      have e1 : w64 lo = lo := by rw [w64_id] <;> omega
      have e2 : w64 (lo + 1) = lo + 1 := by rw [w64_id] <;> omega
      have e3 : wu64 (lo + 1) = lo + 1 := by rw [wu64_eq]; omega
      rw [e1, e2, e3]
      obtain ⟨T, hT⟩ := Int.eq_ofNat_of_zero_le (show 0 ≤ imax 1 (lo + 1) by rw [imax_one]; split <;> omega)
      have hT' : (T : Int) = if lo + 1 < 1 then 1 else lo + 1 := by rw [← hT, imax_one]
      rw [hT, exact_quantile_loop l (lo + 1) hl (by omega) l3 (by omega) hT', ref_quantile_loop l hl (T := T) (by split at hT' <;> omega) (by split at hT' <;> omega)]
      exact ⟨rfl, _, rfl⟩

theorem law08_ExactRanks_true (p0 : List api_Item) (p1 p2 p3 : Int) (_ : wfL wf_api_Item p0) (_ : wfI .i64 p1) (w2 : wfI .i64 p2) (w3 : wfI .i64 p3) : law08_ExactRanks p0 p1 p2 p3 = some true := by
  unfold law08_ExactRanks
  rw [law08_awake_true]
  by_cases hc : (p0.length : Int) > 200
  · rw [decide_eq_true hc]; rfl
  · rw [decide_eq_false hc, cond_false]
    obtain ⟨a1, x, a2⟩ := exact_quantile_eq p0 p2 p3 (rng64 w2) (rng64 w3) (by omega)
    rw [a1, a2, ref_rank8, ref_below8, exact_rank p0 p1 (by omega), exact_below p0 p1 (by omega)]
    simp

end Go.Win
