/- Pu: chapter 09: the answers of a state. -/
import Derived.Test.YtpclnmpmammlfaaPuExRanks
import Derived.Test.YtpclnmpmammlfaaPuSpread3
namespace Go.Win
open Go.Vc Go.Dec

theorem wide_gcd {a b : api_Wide} (ha : okW a) (hb : okW b) : wide_Gcd a b = some (ofW (Nat.gcd (wv a).toNat (wv b).toNat : Nat)) := by
  unfold wide_Gcd wide_Gcd_l2
  obtain ⟨r, hr, hQ⟩ := loop_ind (f := fun s : Int × Int × Int × Int => wide_Gcd_l2s s.1 s.2.1 s.2.2.1 s.2.2.2)
    (fun s => okW ⟨s.1, s.2.1⟩ ∧ okW ⟨s.2.2.1, s.2.2.2⟩ ∧ Nat.gcd (wv ⟨s.1, s.2.1⟩).toNat (wv ⟨s.2.2.1, s.2.2.2⟩).toNat = Nat.gcd (wv a).toNat (wv b).toNat)
    (fun s => (wv ⟨s.2.2.1, s.2.2.2⟩).toNat) (fun r => r = ofW (Nat.gcd (wv a).toNat (wv b).toNat : Nat)) (a.Hi, a.Lo, b.Hi, b.Lo) ⟨ha, hb, rfl⟩ (by
      rintro ⟨x1, x2, y1, y2⟩ ⟨hx, hy, hg⟩
      simp only at hx hy hg ⊢
      have rx := wv_range hx
      have ry := wv_range hy
      unfold wide_Gcd_l2s wide_zero
      simp only
      by_cases h0 : wv ⟨y1, y2⟩ = 0
      · right
        have hz : y1 = 0 ∧ y2 = 0 := by unfold wv at h0; unfold okW at hy; simp only at h0 hy; omega
        obtain ⟨rfl, rfl⟩ := hz
        refine ⟨_, rfl, ?_⟩
        rw [← hg, h0]
        simp only [Int.toNat_zero, Nat.gcd_zero_right]
        rw [Int.toNat_of_nonneg rx.1, ofW_wv hx]
      · left
        have c : (!(y1 == 0 && y2 == 0)) = true := by
          unfold wv at h0
          simp only [Bool.not_eq_true', Bool.and_eq_false_iff, beq_eq_false_iff_ne]
          simp only at h0
          omega
        rw [c, cond_true, wide_div hx hy (by omega)]
        have hm0 : 0 ≤ wv ⟨x1, x2⟩ % wv ⟨y1, y2⟩ := Int.emod_nonneg _ h0
        have hm1 : wv ⟨x1, x2⟩ % wv ⟨y1, y2⟩ < wv ⟨y1, y2⟩ := Int.emod_lt_of_pos _ (by omega)
        refine ⟨_, rfl, ⟨hy, ofW_ok hm0 (by omega), ?_⟩, ?_⟩
        · show Nat.gcd _ (wv (ofW _)).toNat = _
          rw [wv_ofW, ← hg, Int.toNat_emod rx.1 ry.1, Nat.gcd_comm, ← Nat.gcd_rec, Nat.gcd_comm]
        · show (wv (ofW _)).toNat < _
          rw [wv_ofW]
          omega)
  rw [hr, hQ]

theorem size_abs9 {n : Int} (h1 : -9223372036854775808 ≤ n) (h2 : n ≤ 9223372036854775807) : ratio_size n = ref01_Abs n ∧ 0 ≤ ref01_Abs n ∧ ref01_Abs n < 18446744073709551616 := by
  unfold ratio_size ref01_Abs
  by_cases h : n < 0
  · rw [decide_eq_true h]
    simp only [cond_true]
    have e1 : w64 (n + 1) = n + 1 := by rw [w64_id] <;> omega
    have e2 : IntKind.i64.wrap (0 - (n + 1)) = 0 - (n + 1) := by
      show w64 (0 - (n + 1)) = _
      rw [w64_id] <;> omega
    rw [e1, e2]
    have e3 : wu64 n = n + 18446744073709551616 := by rw [wu64_eq]; omega
    have e4 : wu64 (0 - (n + 1)) = 0 - (n + 1) := by rw [wu64_eq]; omega
    have e5 : IntKind.u64.wrap (0 - (n + 18446744073709551616)) = -n := by
      show wu64 (0 - (n + 18446744073709551616)) = _
      rw [wu64_eq]; omega
    have e6 : wu64 (0 - (n + 1) + 1) = -n := by rw [wu64_eq]; omega
    rw [e3, e4, e5, e6]
    omega
  · rw [decide_eq_false h]
    simp only [cond_false]
    exact ⟨trivial, by rw [wu64_eq]; omega, by rw [wu64_eq]; omega⟩

theorem valid_ratio {r : api_Ratio} (h1 : -9223372036854775808 ≤ r.Num) (h2 : r.Num ≤ 9223372036854775807) (_ : -9223372036854775808 ≤ r.Den) (_ : r.Den ≤ 9223372036854775807) :
    ratio_Valid r = ref03_Valid r ∧ ∃ x, ref03_Valid r = some x := by
  unfold ratio_Valid ref03_Valid
  obtain ⟨s1, s2, s3⟩ := size_abs9 h1 h2
  rw [s1]
  simp only
  rw [show wide_Of = ref02_Of from rfl]
  by_cases hd : r.Den ≥ 1
  · rw [decide_eq_true hd]
    have e : 0 ≤ wu64 r.Den ∧ wu64 r.Den < 18446744073709551616 := by rw [wu64_eq]; omega
    rw [gd_true, gd_true, wide_gcd (ref_of s2 s3).1 (ref_of e.1 e.2).1, ref_gcd (ref_of s2 s3).1 (ref_of e.1 e.2).1]
    exact ⟨rfl, _, rfl⟩
  · rw [decide_eq_false hd]
    exact ⟨rfl, _, rfl⟩

theorem exact_ratio {r : api_Ratio} (h1 : -9223372036854775808 ≤ r.Num) (h2 : r.Num ≤ 9223372036854775807) (h3 : -9223372036854775808 ≤ r.Den) (h4 : r.Den ≤ 9223372036854775807) :
    bounds_Exact r = ref04_Exact r ∧ ∃ x, ref04_Exact r = some x := by
  unfold bounds_Exact ref04_Exact
  obtain ⟨a, x, b⟩ := valid_ratio h1 h2 h3 h4
  rw [a, b]
  cases x <;> exact ⟨rfl, _, rfl⟩

theorem whole9 {n : Int} (h1 : -9223372036854775808 ≤ n) (h2 : n ≤ 9223372036854775807) :
    ∃ b, ref08_Whole n = some b ∧ recent_Ask_j3 n = some (⟨b, [], ⟨⟨0, 0⟩, ⟨0, 0⟩⟩⟩, 0) := by
  unfold ref08_Whole recent_Ask_j3
  rw [show ratio_Of = ref03_Of from rfl]
  simp only
  obtain ⟨a, x, b⟩ := exact_ratio (r := ref03_Of n) h1 h2 (by show (-9223372036854775808 : Int) ≤ 1; omega) (by show (1 : Int) ≤ _; omega)
  rw [a, b]
  exact ⟨x, rfl, rfl⟩

/-! ### Extremes -/

theorem extreme_lo (l : List api_Item) (hl : l.length ≤ maxLen) (hi : ∀ p ∈ l, -9223372036854775808 ≤ p.V ∧ p.V ≤ 9223372036854775807) :
    ∃ r, exact_Least l = some r ∧ ref08_Extreme l false = some r ∧ -9223372036854775808 ≤ r.1 ∧ r.1 ≤ 9223372036854775807 := by
  unfold exact_Least ref08_Extreme
  by_cases h0 : l.length = 0
  · have c : ((l.length : Int) == 0) = true := by rw [beq_iff_eq]; omega
    rw [c]
    exact ⟨_, rfl, rfl, by omega, by omega⟩
  · have c : ((l.length : Int) == 0) = false := by rw [beq_eq_false_iff_ne]; omega
    have hlt : 0 < l.length := by omega
    rw [c]
    simp only [cond_false]
    rw [show (0 : Int) = ((0 : Nat) : Int) from rfl, idx_nat, get_some hlt]
    simp only [Option.bind_some]
    have hv := hi l[0] (List.getElem_mem hlt)
    generalize l[0].V = v0 at hv
    have key : ∀ k, ∀ v : Int, -9223372036854775808 ≤ v ∧ v ≤ 9223372036854775807 → ∀ i : Nat, i + k = l.length →
        ∃ r, exact_Least_l3 l v (i : Int) = some r ∧ ref08_Extreme_l3 l false v (i : Int) = some r ∧ -9223372036854775808 ≤ r.1 ∧ r.1 ≤ 9223372036854775807 := by
      intro k
      induction k with
      | zero =>
        intro v hv i hik
        refine ⟨(v, true), ?_, ?_, hv⟩
        · unfold exact_Least_l3
          refine loop_inr ?_
          unfold exact_Least_l3s
          simp only
          rw [decide_eq_false (by omega)]; rfl
        · unfold ref08_Extreme_l3
          refine loop_inr ?_
          unfold ref08_Extreme_l3s
          simp only
          rw [decide_eq_false (by omega)]; rfl
      | succ k ih =>
        intro v hv i hik
        have hlt : i < l.length := by omega
        have hw := hi l[i] (List.getElem_mem hlt)
        have hmin : imin v l[i].V = if l[i].V < v then l[i].V else v := rfl
        obtain ⟨r, r1, r2, r3⟩ := ih (imin v l[i].V) (by rw [hmin]; split <;> omega) (i + 1) (by omega)
        refine ⟨r, ?_, ?_, r3⟩
        · rw [← r1]
          unfold exact_Least_l3
          refine loop_inl ?_
          unfold exact_Least_l3s
          simp only
          rw [decide_eq_true (by omega), cond_true, idx_nat, get_some hlt, succ_nat hlt hl]
          rfl
        · rw [← r2]
          unfold ref08_Extreme_l3
          refine loop_inl ?_
          unfold ref08_Extreme_l3s
          simp only
          rw [decide_eq_true (by omega), cond_true, idx_nat, get_some hlt, succ_nat hlt hl]
          simp only [Option.bind_some, Bool.false_and, Bool.not_false, Bool.true_and, Bool.false_or]
          rw [hmin]
          by_cases hc : l[i].V < v
          · rw [decide_eq_true hc, if_pos hc]; rfl
          · rw [decide_eq_false hc, if_neg hc]; rfl
    exact key l.length v0 hv 0 (by omega)

theorem extreme_hi (l : List api_Item) (hl : l.length ≤ maxLen) (hi : ∀ p ∈ l, -9223372036854775808 ≤ p.V ∧ p.V ≤ 9223372036854775807) :
    ∃ r, exact_Greatest l = some r ∧ ref08_Extreme l true = some r ∧ -9223372036854775808 ≤ r.1 ∧ r.1 ≤ 9223372036854775807 := by
  unfold exact_Greatest ref08_Extreme
  by_cases h0 : l.length = 0
  · have c : ((l.length : Int) == 0) = true := by rw [beq_iff_eq]; omega
    rw [c]
    exact ⟨_, rfl, rfl, by omega, by omega⟩
  · have c : ((l.length : Int) == 0) = false := by rw [beq_eq_false_iff_ne]; omega
    have hlt : 0 < l.length := by omega
    rw [c]
    simp only [cond_false]
    rw [show (0 : Int) = ((0 : Nat) : Int) from rfl, idx_nat, get_some hlt]
    simp only [Option.bind_some]
    have hv := hi l[0] (List.getElem_mem hlt)
    generalize l[0].V = v0 at hv
    have key : ∀ k, ∀ v : Int, -9223372036854775808 ≤ v ∧ v ≤ 9223372036854775807 → ∀ i : Nat, i + k = l.length →
        ∃ r, exact_Greatest_l3 l v (i : Int) = some r ∧ ref08_Extreme_l3 l true v (i : Int) = some r ∧ -9223372036854775808 ≤ r.1 ∧ r.1 ≤ 9223372036854775807 := by
      intro k
      induction k with
      | zero =>
        intro v hv i hik
        refine ⟨(v, true), ?_, ?_, hv⟩
        · unfold exact_Greatest_l3
          refine loop_inr ?_
          unfold exact_Greatest_l3s
          simp only
          rw [decide_eq_false (by omega)]; rfl
        · unfold ref08_Extreme_l3
          refine loop_inr ?_
          unfold ref08_Extreme_l3s
          simp only
          rw [decide_eq_false (by omega)]; rfl
      | succ k ih =>
        intro v hv i hik
        have hlt : i < l.length := by omega
        have hw := hi l[i] (List.getElem_mem hlt)
        have hmax : imax v l[i].V = if l[i].V > v then l[i].V else v := rfl
        obtain ⟨r, r1, r2, r3⟩ := ih (imax v l[i].V) (by rw [hmax]; split <;> omega) (i + 1) (by omega)
        refine ⟨r, ?_, ?_, r3⟩
        · rw [← r1]
          unfold exact_Greatest_l3
          refine loop_inl ?_
          unfold exact_Greatest_l3s
          simp only
          rw [decide_eq_true (by omega), cond_true, idx_nat, get_some hlt, succ_nat hlt hl]
          rfl
        · rw [← r2]
          unfold ref08_Extreme_l3
          refine loop_inl ?_
          unfold ref08_Extreme_l3s
          simp only
          rw [decide_eq_true (by omega), cond_true, idx_nat, get_some hlt, succ_nat hlt hl]
          simp only [Option.bind_some, Bool.true_and, Bool.not_true, Bool.false_and, Bool.or_false]
          rw [hmax]
          by_cases hc : l[i].V > v
          · rw [decide_eq_true hc, if_pos hc]; rfl
          · rw [decide_eq_false hc, if_neg hc]; rfl
    exact key l.length v0 hv 0 (by omega)

/-! ### A valid state is small -/

theorem ok_small {x : api_Recent} (h : okV x = true) (hl : x.Items.length ≤ 200) : smallI x.Items := by
  refine ⟨hl, fun p hp => ?_⟩
  unfold okV at h
  simp only [Bool.and_eq_true, List.all_eq_true] at h
  have hv := (h.2.2 p hp).2
  unfold ref09_Value at hv
  simp only [Bool.and_eq_true, decide_eq_true_eq] at hv
  omega

theorem spread9 {l : List api_Item} (h : smallI l) : ref09_spread (l.length : Int) (sumV l) (sqS l) = some (if l = [] then ⟨0, 1⟩ else ratioOf (pD l).toNat l.length) := by
  unfold ref09_spread
  have n1 := nQ_bound h
  have n2 := sumV_small h.2
  have n3 := sqS_small h.2
  have n4 := pD_nn h
  have hl := h.1
  have hs : sumV l * sumV l = (l.length : Int) * sqS l - pD l := by unfold pD; omega
  have e1 : w64 ((l.length : Int) * sqS l) = (l.length : Int) * sqS l := by rw [w64_id] <;> omega
  have e2 : w64 (sumV l * sumV l) = (l.length : Int) * sqS l - pD l := by rw [hs, w64_id] <;> omega
  have e3 : w64 ((l.length : Int) * sqS l - ((l.length : Int) * sqS l - pD l)) = ((pD l).toNat : Int) := by rw [w64_id] <;> omega
  rw [e1, e2, e3]
  by_cases h0 : l = []
  · rw [if_pos h0]
    subst h0
    have e4 : imax (([] : List api_Item).length : Int) 1 = ((1 : Nat) : Int) := rfl
    have e5 : ((pD ([] : List api_Item)).toNat : Int) = ((0 : Nat) : Int) := rfl
    rw [e4, e5, ref_make (by omega) (by omega) (by omega)]
    rfl
  · rw [if_neg h0]
    have hpos : 0 < l.length := List.length_pos_iff.2 h0
    have e4 : imax (l.length : Int) 1 = (l.length : Int) := by
      show (if (1 : Int) > (l.length : Int) then 1 else (l.length : Int)) = _
      rw [if_neg (by omega)]
    rw [e4, ref_make (by omega) (by omega) hpos]
    rfl

theorem same_numbers (l : List Int) (hl : l.length ≤ maxLen) : ref09_SameNumbers l l = some true := by
  unfold ref09_SameNumbers
  rw [bne_self_eq_false, cond_false]
  unfold ref09_SameNumbers_l3
  have := loop_all (f := fun s : Int => ref09_SameNumbers_l3s l l s) (n := l.length) (bad := fun _ => false) (E := false) (A := some true)
    (fun i hi => by
      unfold ref09_SameNumbers_l3s
      simp only [Int.ofNat_lt, hi, decide_true, cond_true, idx_nat, get_some hi, Option.bind_some, succ_nat hi hl, bne_self_eq_false, cond_false])
    (by
      unfold ref09_SameNumbers_l3s
      simp only [Int.lt_irrefl, decide_false, cond_false])
  have hn : (List.range l.length).any (fun _ => false) = false := by rw [List.any_eq_false]; intro _ _; exact Bool.false_ne_true
  rw [hn] at this
  exact this

theorem same_answer (a : api_Answer) (hl : a.Values.length ≤ maxLen) : ref09_SameAnswer a a = some true := by
  unfold ref09_SameAnswer
  simp only [beq_self_eq_true, Bool.and_self, gd_true]
  rw [same_numbers _ hl]
  rfl

/-! ### The answers -/

theorem sqS_nn9 (l : List api_Item) : 0 ≤ sqS l := by
  induction l with
  | nil => exact Int.le_refl _
  | cons p l ih =>
    show 0 ≤ p.V * p.V + sqS l
    have : 0 ≤ p.V * p.V := by
      rcases Int.le_total 0 p.V with h | h
      · exact Int.mul_nonneg h h
      · rw [← Int.neg_mul_neg]
        exact Int.mul_nonneg (by omega) (by omega)
    omega

/-- All that recent.Ask needs of the items of a valid state. -/
theorem ask_eq (x : api_Recent) (q : api_Query) (hl : x.Items.length ≤ 200) (hA : -9223372036854775808 ≤ q.A ∧ q.A ≤ 9223372036854775807) (hB : -9223372036854775808 ≤ q.B ∧ q.B ≤ 9223372036854775807) :
    ∃ r, recent_Ask x q = some r ∧ ref09_Ask x q = some r ∧ r.1.Values.length ≤ 2 := by
  have hm : x.Items.length ≤ maxLen := by rw [maxLen_eq]; omega
  unfold recent_Ask ref09_Ask
  rw [validate9_eq, validate9_spec x hm]
  simp only [Option.bind_some]
  cases hok : okV x with
  | false => exact ⟨_, rfl, rfl, Nat.zero_le _⟩
  | true =>
    have hs := ok_small hok hl
    have hr : rngI x.Items := fun p hp => by have := hs.2 p hp; omega
    obtain ⟨lo, l1, l2, l3⟩ := extreme_lo x.Items hm hr
    obtain ⟨hi, g1, g2, g3⟩ := extreme_hi x.Items hm hr
    have b1 := sumV_small hs.2
    have b2 := sqS_small hs.2
    have b3 := pD_nn hs
    have b4 := sqS_nn9 x.Items
    have f1 : fit (posS x.Items - negS x.Items) = (sumV x.Items, true) := by
      rw [sumV_pos]; unfold fit; rw [if_pos (by omega)]
    have f2 : fit (sqS x.Items) = (sqS x.Items, true) := by
      unfold fit; rw [if_pos (by omega)]
    rw [l1, l2, g1, g2, ref_sum _ hr (by omega), ref_Squares _ hr (by omega), exact_sum _ hr (by omega), exact_squares _ hr (by omega), f1, f2, exact_spread hs, ref_rank8, exact_rank _ _ (by omega)]
    simp only [if_true, bne_self_eq_false, cond_false, Option.bind_some]
    rw [spread9 hs]
    cases q.Op == 1 with
    | true =>
      obtain ⟨b, w1, w2⟩ := whole9 (n := (x.Items.length : Int)) (by omega) (by omega)
      simp only [cond_true]
      rw [show exact_Count x.Items = (x.Items.length : Int) from rfl, w1, w2]
      exact ⟨_, rfl, rfl, Nat.zero_le _⟩
    | false =>
    simp only [cond_false]
    cases q.Op == 2 with
    | true =>
      obtain ⟨b, w1, w2⟩ := whole9 (n := sumV x.Items) (by omega) (by omega)
      simp only [cond_true]
      rw [w1, w2]
      exact ⟨_, rfl, rfl, Nat.zero_le _⟩
    | false =>
    simp only [cond_false]
    cases q.Op == 3 with
    | true =>
      obtain ⟨b, w1, w2⟩ := whole9 (n := sqS x.Items) (by omega) (by omega)
      simp only [cond_true]
      rw [w1, w2]
      exact ⟨_, rfl, rfl, Nat.zero_le _⟩
    | false =>
    simp only [cond_false]
    cases q.Op == 4 with
    | true =>
      have hw : -9223372036854775808 ≤ w64 (hi.1 - lo.1) ∧ w64 (hi.1 - lo.1) ≤ 9223372036854775807 := by rw [w64_eq]; omega
      obtain ⟨b, w1, w2⟩ := whole9 (n := w64 (hi.1 - lo.1)) hw.1 hw.2
      simp only [cond_true]
      rw [w1, w2]
      exact ⟨_, rfl, rfl, Nat.zero_le _⟩
    | false =>
    simp only [cond_false]
    cases q.Op == 5 with
    | true =>
      simp only [cond_true]
      have hrg : ∀ r : api_Ratio, r = (if x.Items = [] then ⟨0, 1⟩ else ratioOf (pD x.Items).toNat x.Items.length) → (-9223372036854775808 ≤ r.Num ∧ r.Num ≤ 9223372036854775807) ∧ -9223372036854775808 ≤ r.Den ∧ r.Den ≤ 9223372036854775807 := by
        rintro r rfl
        by_cases h0 : x.Items = []
        · rw [if_pos h0]; simp only; omega
        · rw [if_neg h0]
          unfold ratioOf
          simp only
          have d1 := Nat.div_le_self (pD x.Items).toNat (Nat.gcd (pD x.Items).toNat x.Items.length)
          have d2 := Nat.div_le_self x.Items.length (Nat.gcd (pD x.Items).toNat x.Items.length)
          have d3 := Int.natCast_nonneg ((pD x.Items).toNat / Nat.gcd (pD x.Items).toNat x.Items.length)
          have d4 := Int.natCast_nonneg (x.Items.length / Nat.gcd (pD x.Items).toNat x.Items.length)
          omega
      generalize (if x.Items = [] then (⟨0, 1⟩ : api_Ratio) else ratioOf (pD x.Items).toNat x.Items.length) = r at hrg
      obtain ⟨⟨r1, r2⟩, r3, r4⟩ := hrg r rfl
      obtain ⟨a, y, b⟩ := exact_ratio r1 r2 r3 r4
      simp only [Option.bind_some]
      rw [a, b]
      exact ⟨_, rfl, rfl, Nat.zero_le _⟩
    | false =>
    simp only [cond_false]
    cases q.Op == 6 with
    | true =>
      simp only [cond_true]
      cases ((x.Items.length : Int) == 0) with
      | true => exact ⟨_, rfl, rfl, Nat.zero_le _⟩
      | false => exact ⟨_, rfl, rfl, by show 2 ≤ 2; omega⟩
    | false =>
    simp only [cond_false]
    cases q.Op == 7 with
    | true =>
      have hc : cLe (vals x.Items) q.A ≤ x.Items.length := by
        have := cLe_le (vals x.Items) q.A
        rw [vals_length] at this
        exact this
      obtain ⟨b, w1, w2⟩ := whole9 (n := (cLe (vals x.Items) q.A : Int)) (by omega) (by omega)
      simp only [cond_true]
      rw [w1, w2]
      exact ⟨_, rfl, rfl, Nat.zero_le _⟩
    | false =>
    simp only [cond_false]
    cases q.Op == 8 with
    | true =>
      simp only [cond_true]
      obtain ⟨e1, y, e2⟩ := exact_quantile_eq x.Items q.A q.B hA hB (by omega)
      have hasks : (!ref08_Asks q.A q.B) = ((decide (q.B < 1) || decide (q.A < 0)) || decide (q.A > q.B)) := by
        unfold ref08_Asks
        rw [Bool.eq_iff_iff]
        simp only [Bool.not_eq_true', Bool.and_eq_false_iff, decide_eq_false_iff_not, Bool.or_eq_true, decide_eq_true_eq]
        omega
      rw [e1, e2, hasks]
      cases ((decide (q.B < 1) || decide (q.A < 0)) || decide (q.A > q.B)) with
      | true => exact ⟨_, rfl, rfl, Nat.zero_le _⟩
      | false =>
        simp only [cond_false, Option.bind_some]
        cases y.2 with
        | true => exact ⟨_, rfl, rfl, by show 1 ≤ 2; omega⟩
        | false => exact ⟨_, rfl, rfl, Nat.zero_le _⟩
    | false => exact ⟨_, rfl, rfl, Nat.zero_le _⟩

theorem law09_RecentAsks_true (p0 : api_Recent) (p1 : api_Query) (_ : wf_api_Recent p0) (w1 : wf_api_Query p1) : law09_RecentAsks p0 p1 = some true := by
  unfold law09_RecentAsks
  rw [awake9]
  simp only
  by_cases hl : p0.Items.length ≤ 200
  · rw [show law09_few p0 = true from decide_eq_true (by omega)]
    simp only [Bool.not_true, cond_false]
    obtain ⟨r, r1, r2, r3⟩ := ask_eq p0 p1 hl (rng64 w1.2.1) (rng64 w1.2.2)
    rw [r1, r2]
    simp only [Option.bind_some]
    rw [same_answer r.1 (by rw [maxLen_eq]; omega)]
    simp
  · rw [show law09_few p0 = false from decide_eq_false (by omega)]
    rfl

end Go.Win
