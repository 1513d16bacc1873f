/- Pu: chapter 09: the answers of a synopsis are the aggregates of its items. -/
import Derived.Test.YtpclnmpmammlfaaPuRecent
import Derived.Test.YtpclnmpmammlfaaPuMoves
import Derived.Test.YtpclnmpmammlfaaPuMade
namespace Go.Win
open Go.Vc Go.Dec

/-- A valid state, and what is known of it. -/
structure Fit9 (x : api_Recent) : Prop where
  ok : okV x = true
  few : x.Items.length ≤ 200

theorem ask_start {x : api_Recent} (h : Fit9 x) : (∃ lo hi, exact_Least x.Items = some lo ∧ exact_Greatest x.Items = some hi) ∧ recent_Validate x = some 0 ∧ exact_Sum x.Items = some (sumV x.Items, true) ∧ exact_Rank x.Items = (fun v => some (cLe (vals x.Items) v : Int)) ∧
    -9223372036854775808 ≤ sumV x.Items ∧ sumV x.Items ≤ 9223372036854775807 := by
  have hl := h.few
  have hs := ok_small h.ok hl
  have hm : x.Items.length ≤ maxLen := by rw [maxLen_eq]; omega
  have hr : rngI x.Items := fun p hp => by have := hs.2 p hp; omega
  obtain ⟨lo, l1, _, _⟩ := extreme_lo x.Items hm hr
  obtain ⟨hi, g1, _, _⟩ := extreme_hi x.Items hm hr
  have b1 := sumV_small hs.2
  refine ⟨⟨lo, hi, l1, g1⟩, ?_, ?_, ?_, by omega, by omega⟩
  · rw [validate9_eq, validate9_spec x hm, h.ok]; rfl
  · rw [exact_sum _ hr (by omega), sumV_pos]; unfold fit; rw [if_pos (by omega)]
  · funext v
    exact exact_rank _ _ (by omega)

theorem ask_sum {x : api_Recent} (h : Fit9 x) (a b : Int) : recent_Ask x ⟨2, a, b⟩ = recent_Ask_j3 (sumV x.Items) := by
  obtain ⟨⟨lo, hi, l1, g1⟩, v, s, _, _, _⟩ := ask_start h
  unfold recent_Ask
  rw [v, l1, g1, s]
  rfl

theorem ask_rank {x : api_Recent} (h : Fit9 x) (a b : Int) : recent_Ask x ⟨7, a, b⟩ = recent_Ask_j3 (cLe (vals x.Items) a) := by
  obtain ⟨⟨lo, hi, l1, g1⟩, v, _, r, _, _⟩ := ask_start h
  unfold recent_Ask
  rw [v, l1, g1, r]
  rfl

/-- The spread of the items. -/
def spR (l : List api_Item) : api_Ratio := ratioOf (if l = [] then 0 else (pD l).toNat) (if l = [] then 1 else l.length)

theorem spR_eq (l : List api_Item) : (if l = [] then (⟨0, 1⟩ : api_Ratio) else ratioOf (pD l).toNat l.length) = spR l := by
  unfold spR
  by_cases h : l = []
  · rw [if_pos h, if_pos h, if_pos h, ratio01]
  · rw [if_neg h, if_neg h, if_neg h]

theorem spread_exact {l : List api_Item} (h : smallI l) : exact_Spread l = some (spR l, true) ∧ bounds_Exact (spR l) = some ⟨spR l, spR l, spR l⟩ := by
  have b3 := pD_nn h
  have hl := h.1
  refine ⟨by rw [exact_spread h, spR_eq], ?_⟩
  have hd : (if l = [] then 0 else (pD l).toNat) < 9223372036854775808 := by split <;> omega
  have hn : (if l = [] then 1 else l.length) < 9223372036854775808 := by split <;> omega
  have h0 : 0 < (if l = [] then 1 else l.length) := by
    by_cases h : l = []
    · rw [if_pos h]; omega
    · rw [if_neg h]; exact List.length_pos_iff.2 h
  have hv := ratio_valid hd hn h0
  have r1 := Nat.div_le_self (if l = [] then 0 else (pD l).toNat) (Nat.gcd (if l = [] then 0 else (pD l).toNat) (if l = [] then 1 else l.length))
  have r2 := Nat.div_le_self (if l = [] then 1 else l.length) (Nat.gcd (if l = [] then 0 else (pD l).toNat) (if l = [] then 1 else l.length))
  unfold spR
  generalize (if l = [] then 0 else (pD l).toNat) = d at *
  generalize (if l = [] then 1 else l.length) = n at *
  have e1 : (ratioOf d n).Num = ((d / Nat.gcd d n : Nat) : Int) := rfl
  have e2 : (ratioOf d n).Den = ((n / Nat.gcd d n : Nat) : Int) := rfl
  generalize hx : d / Nat.gcd d n = x at *
  generalize hy : n / Nat.gcd d n = y at *
  obtain ⟨a, _⟩ := exact_ratio (r := ratioOf d n) (by rw [e1]; omega) (by rw [e1]; omega) (by rw [e2]; omega) (by rw [e2]; omega)
  rw [a]
  unfold ref04_Exact
  rw [hv]
  rfl

theorem ask_spread {x : api_Recent} (h : Fit9 x) (a b : Int) : recent_Ask x ⟨5, a, b⟩ = some (⟨⟨spR x.Items, spR x.Items, spR x.Items⟩, [], ⟨⟨0, 0⟩, ⟨0, 0⟩⟩⟩, 0) := by
  obtain ⟨⟨lo, hi, l1, g1⟩, v, _, _, _, _⟩ := ask_start h
  obtain ⟨s1, s2⟩ := spread_exact (ok_small h.ok h.few)
  unfold recent_Ask
  rw [v, l1, g1, s1]
  simp only [Option.bind_some]
  rw [s2]
  rfl

theorem ask_quantile {x : api_Recent} (h : Fit9 x) {p q : Int} (hp : 0 ≤ p) (hpq : p ≤ q) (hq : 1 ≤ q) (hq2 : q ≤ 9223372036854775807) :
    ∃ y, exact_Quantile x.Items p q = some y ∧ ((y.2 = true ∧ ∃ a : api_Answer, recent_Ask x ⟨8, p, q⟩ = some (a, 0) ∧ a.Values = [y.1]) ∨ (y.2 = false ∧ ∃ a : api_Answer, recent_Ask x ⟨8, p, q⟩ = some (a, 7))) := by
  obtain ⟨⟨lo, hi, l1, g1⟩, v, _, _, _, _⟩ := ask_start h
  obtain ⟨e1, y, e2⟩ := exact_quantile_eq x.Items p q ⟨by omega, by omega⟩ ⟨by omega, by omega⟩ (by have := h.few; omega)
  refine ⟨y, by rw [e1, e2], ?_⟩
  unfold recent_Ask
  rw [v, l1, g1]
  simp only [Option.bind_some, e1, e2]
  rw [decide_eq_false (by omega : ¬ q < 1), decide_eq_false (by omega : ¬ p < 0), decide_eq_false (by omega : ¬ p > q)]
  cases hy : y.2 with
  | true => exact .inl ⟨rfl, _, rfl, rfl⟩
  | false => exact .inr ⟨rfl, _, rfl⟩

theorem truth_in {w now p q a : Int} {l : List api_Item} (h : Fit9 ⟨w, 60, now, l⟩) (hp : 0 ≤ p) (hpq : p ≤ q) (hq : 1 ≤ q) (hq2 : q ≤ 20) {y1 y4 : Int} (e1 : w64 (1 + y1) = w) (e2 : w64 (1 + y4) = q) :
    law09_RecentTruth_j1 a y1 y4 p now l = some true := by
  have hl := h.few
  simp only at hl
  have hs := ok_small h.ok hl
  obtain ⟨_, _, s, r, s1, s2⟩ := ask_start h
  simp only at s r s1 s2
  obtain ⟨sp, _⟩ := spread_exact hs
  have hc : cLe (vals l) a ≤ l.length := by
    have := cLe_le (vals l) a
    rw [vals_length] at this
    exact this
  obtain ⟨b1, w1, w2⟩ := whole9 s1 s2
  obtain ⟨b2, w3, w4⟩ := whole9 (n := (cLe (vals l) a : Int)) (by omega) (by omega)
  obtain ⟨y, q1, q2⟩ := ask_quantile h hp hpq hq (by omega)
  unfold law09_RecentTruth_j1
  rw [e1, e2, s, sp, ask_sum h, ask_spread h, ask_rank h, w2, w4, ref_rank8, r, q1]
  simp only [Option.bind_some]
  rw [w1]
  simp only [bne_self_eq_false, Bool.not_true, Bool.or_self, Bool.not_false, gd_true, Option.bind_some, beq_self_eq_true, Bool.and_self]
  rw [w3, awake9]
  simp only [Option.bind_some, beq_self_eq_true, Bool.and_self, Bool.not_true]
  rcases q2 with ⟨hy, a, q3, q4⟩ | ⟨hy, a, q3⟩
  · rw [q3]
    simp only [Option.bind_some, hy, q4]
    rw [same_numbers [y.1] (by rw [maxLen_eq, List.length_singleton]; omega)]
    rfl
  · rw [q3]
    simp only [Option.bind_some, hy]
    rfl

theorem law09_RecentTruth_true (p0 : List api_Item) (p1 p2 p3 p4 : Int) (w0 : wfL wf_api_Item p0) (_ : wfI .i64 p1) (_ : wfI .i64 p2) (_ : wfI .i64 p3) (_ : wfI .i64 p4) : law09_RecentTruth p0 p1 p2 p3 p4 = some true := by
  unfold law09_RecentTruth
  obtain ⟨m, m0, m1, m2⟩ := mod_ok p1 (n := 20) (by omega) (by omega)
  obtain ⟨q, q0, q1, q2⟩ := mod_ok p4 (n := 20) (by omega) (by omega)
  rw [m0, q0]
  simp only [Option.bind_some]
  have e1 : w64 (1 + m) = 1 + m := by rw [w64_id] <;> omega
  have e2 : w64 (1 + q) = 1 + q := by rw [w64_id] <;> omega
  have e3 : w64 (1 + q + 1) = 1 + q + 1 := by rw [w64_id] <;> omega
  obtain ⟨p, p5, p6, p7⟩ := mod_ok p3 (n := 1 + q + 1) (by omega) (by omega)
  rw [e2, e3, p5, e1]
  simp only [Option.bind_some]
  obtain ⟨l, l0, l1, l2⟩ := items_ok p0 (w := 1 + m) (most := 60) w0.1 (by omega) (by omega) (by omega) (by omega)
  rw [l0]
  simp only [Option.bind_some]
  by_cases h0 : 0 < l.length
  · have hk : l.length - 1 < l.length := by omega
    rw [decide_eq_true (by omega), cond_true, show w64 ((l.length : Int) - 1) = ((l.length - 1 : Nat) : Int) by rw [w64_id] <;> omega, idx_nat, get_some hk]
    simp only [Option.bind_some]
    have hT := l1.2.2 (l.length - 1) l[l.length - 1] (get_some hk)
    have hT0 := (l1.1 l[l.length - 1] (List.getElem_mem hk)).1
    have hTb : l[l.length - 1].T ≤ 16777216 := by
      have : ((l.length - 1 : Nat) : Int) + 1 ≤ 60 := by omega
      have hb : (((l.length - 1 : Nat) : Int) + 1) * (2 * (1 + m) + 1) ≤ 60 * (2 * (1 + m) + 1) := Int.mul_le_mul_of_nonneg_right this (by omega)
      omega
    rw [madeLive_ok l _ _ (by omega)]
    simp only [Option.bind_some]
    refine truth_in (w := 1 + m) (q := 1 + q) ⟨?_, ?_⟩ p6 (by omega) (by omega) (by omega) e1 e2
    · rw [okV_iff]
      have ew : w64 (l[l.length - 1].T - (1 + m)) = l[l.length - 1].T - (1 + m) := by rw [w64_id] <;> omega
      rw [ew]
      refine ⟨⟨by show 1 ≤ 1 + m; omega, by show 1 + m ≤ 1048576; omega⟩, ⟨by show (1 : Int) ≤ 60; omega, by show (60 : Int) ≤ 65536; omega⟩, (tick_iff _).2 ⟨hT0, hTb⟩, ?_, ?_, ?_⟩
      · show ((List.filter _ l).length : Int) ≤ 60
        have := List.length_filter_le (fun p : api_Item => decide (p.T > l[l.length - 1].T - (1 + m)) && decide (p.T ≤ l[l.length - 1].T)) l
        omega
      · intro x hx
        obtain ⟨hx1, hx2⟩ := List.mem_filter.1 hx
        simp only [Bool.and_eq_true, decide_eq_true_eq] at hx2
        have := l1.1 x hx1
        exact ⟨this.1, hx2.2, hx2.1, this.2⟩
      · show List.Pairwise _ (List.filter _ l)
        refine List.Pairwise.filter _ (List.pairwise_iff_getElem.2 fun i j hi hj hij => ?_)
        exact l1.2.1 i j l[i] l[j] (Nat.le_of_lt hij) (get_some hi) (get_some hj)
    · show (List.filter _ l).length ≤ 200
      have := List.length_filter_le (fun p : api_Item => decide (p.T > w64 (l[l.length - 1].T - (1 + m))) && decide (p.T ≤ l[l.length - 1].T)) l
      omega
  · rw [decide_eq_false (by omega), cond_false]
    refine truth_in (w := 1 + m) (q := 1 + q) ⟨?_, Nat.zero_le _⟩ p6 (by omega) (by omega) (by omega) e1 e2
    rw [okV_iff]
    refine ⟨⟨by show 1 ≤ 1 + m; omega, by show 1 + m ≤ 1048576; omega⟩, ⟨by show (1 : Int) ≤ 60; omega, by show (60 : Int) ≤ 65536; omega⟩, (tick_iff 0).2 ⟨by omega, by omega⟩, by show ((0 : Nat) : Int) ≤ 60; omega, ?_, ?_⟩
    · intro x hx
      exact absurd hx (List.not_mem_nil)
    · exact List.Pairwise.nil

end Go.Win
