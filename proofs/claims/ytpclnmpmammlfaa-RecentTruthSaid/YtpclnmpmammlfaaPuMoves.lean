/- Pu: chapter 08: the statement ExactMoves. -/
import Derived.Test.YtpclnmpmammlfaaPuSpread3
namespace Go.Win
open Go.Vc Go.Dec

theorem mod_in (a : Int) {n : Int} (h1 : 1 ≤ n) (h2 : n ≤ 4611686018427387904) : ∃ r, made_Mod a n = some r ∧ 0 ≤ r ∧ r < n := by
  have g1 := Int.tmod_lt_of_pos a (show 0 < n by omega)
  have g2 := Int.lt_tmod_of_pos a (show 0 < n by omega)
  unfold made_Mod
  have hk : decide (n ≠ 0) = true := by rw [decide_eq_true_eq]; omega
  rw [hk, ck_true]
  by_cases h : a.tmod n < 0
  · have e : w64 (a.tmod n + n) = a.tmod n + n := by rw [w64_id] <;> omega
    rw [decide_eq_true h, cond_true, e]
    exact ⟨_, rfl, by omega, by omega⟩
  · rw [decide_eq_false h, cond_false]
    exact ⟨_, rfl, by omega, by omega⟩

theorem value_in (a : Int) : ∃ v, made_Value a = some v ∧ -4096 ≤ v ∧ v ≤ 4096 := by
  unfold made_Value
  obtain ⟨q, hq, _, _⟩ := mod_in a (n := 8) (by decide) (by decide)
  obtain ⟨r, hr, r1, r2⟩ := mod_in (w64 (a.tdiv 8)) (n := 8193) (by decide) (by decide)
  obtain ⟨s, hs, s1, s2⟩ := mod_in (w64 (a.tdiv 8)) (n := 2) (by decide) (by decide)
  obtain ⟨t, ht, t1, t2⟩ := mod_in (w64 (a.tdiv 8)) (n := 13) (by decide) (by decide)
  rw [hq, hr, hs, ht]
  simp only [Option.bind_some]
  cases q == 0 with
  | true => exact ⟨_, rfl, by rw [w64_id] <;> omega, by rw [w64_id] <;> omega⟩
  | false =>
    cases q == 1 with
    | true =>
      have e1 : w64 (2 * s) = 2 * s := by rw [w64_id] <;> omega
      have e2 : w64 (2 * s - 1) = 2 * s - 1 := by rw [w64_id] <;> omega
      refine ⟨_, rfl, ?_, ?_⟩ <;> (rw [e1, e2, w64_id] <;> omega)
    | false => exact ⟨_, rfl, by rw [w64_id] <;> omega, by rw [w64_id] <;> omega⟩

noncomputable def mv (p : api_Item) : Int := (made_Value p.V).getD 0

theorem mv_spec (p : api_Item) : made_Value p.V = some (mv p) ∧ -4096 ≤ mv p ∧ mv p ≤ 4096 := by
  obtain ⟨v, h1, h2, h3⟩ := value_in p.V
  unfold mv
  rw [h1]
  exact ⟨rfl, h2, h3⟩

/-- Values moved by c. -/
noncomputable def mvL (c : Int) (l : List api_Item) : List api_Item := l.map fun p => ⟨0, mv p + c⟩

theorem mvL_small {c : Int} (hc : 0 ≤ c ∧ c < 1000) {l : List api_Item} (hl : l.length ≤ 200) : smallI (mvL c l) := by
  refine ⟨by unfold mvL; rw [List.length_map]; exact hl, fun p hp => ?_⟩
  obtain ⟨q, _, rfl⟩ := List.mem_map.1 hp
  have := mv_spec q
  simp only
  omega

theorem shift_sums (c : Int) (l : List api_Item) : sumV (l.map fun p => ⟨0, p.V + c⟩) = sumV l + l.length * c ∧ sqS (l.map fun p => ⟨0, p.V + c⟩) = sqS l + 2 * (c * sumV l) + l.length * (c * c) := by
  induction l with
  | nil => simp [sumV, sqS]
  | cons p l ih =>
    simp only [List.map_cons, sumV, sqS, List.length_cons]
    rw [ih.1, ih.2, Int.natCast_add]
    constructor <;> grind

theorem shift_pD (c : Int) (l : List api_Item) : pD (l.map fun p => ⟨0, p.V + c⟩) = pD l := by
  unfold pD
  rw [(shift_sums c l).1, (shift_sums c l).2, List.length_map]
  grind

theorem mvL_pD (c : Int) (l : List api_Item) : pD (mvL c l) = pD (mvL 0 l) := by
  have : mvL c l = (mvL 0 l).map fun p => ⟨0, p.V + c⟩ := by
    unfold mvL
    rw [List.map_map]
    apply List.map_congr_left
    intro p _
    simp
  rw [this, shift_pD]

/-! ### Comparing -/

theorem ratio_valid {d n : Nat} (hd : d < 9223372036854775808) (hn : n < 9223372036854775808) (h0 : 0 < n) : ref03_Valid (ratioOf d n) = some true := by
  have gpos : 0 < Nat.gcd d n := Nat.gcd_pos_of_pos_right _ h0
  have q1 : d / Nat.gcd d n ≤ d := Nat.div_le_self _ _
  have q2 : n / Nat.gcd d n ≤ n := Nat.div_le_self _ _
  have gle : Nat.gcd d n ≤ n := Nat.gcd_le_right _ h0
  have npos : 0 < n / Nat.gcd d n := Nat.div_pos gle gpos
  have cop : Nat.gcd (d / Nat.gcd d n) (n / Nat.gcd d n) = 1 := Nat.coprime_div_gcd_div_gcd gpos
  unfold ref03_Valid ratioOf
  simp only
  generalize d / Nat.gcd d n = x at *
  generalize n / Nat.gcd d n = y at *
  rw [abs_abs (by omega) (by omega), if_neg (by omega)]
  have wy : wu64 (y : Int) = (y : Int) := by rw [wu64_eq]; omega
  obtain ⟨o1, v1⟩ := ref_of (n := (x : Int)) (by omega) (by omega)
  obtain ⟨o2, v2⟩ := ref_of (n := (y : Int)) (by omega) (by omega)
  rw [wy, decide_eq_true (by omega : (y : Int) ≥ 1), gd_true, ref_gcd o1 o2, v1, v2, Int.toNat_natCast, Int.toNat_natCast, cop]
  rfl

theorem sign_nat (x : Nat) : ref02_sign (x : Int) = if x = 0 then 0 else 1 := by
  unfold ref02_sign
  rw [decide_eq_false (by omega : ¬ (x : Int) < 0), cond_false]
  by_cases h : x = 0
  · subst h; rfl
  · rw [decide_eq_true (by omega : (x : Int) > 0), cond_true, if_neg h]

theorem cross_le {a b c d : Nat} (ha : a < 9223372036854775808) (hb : b < 9223372036854775808) (hc : c < 9223372036854775808) (hd : d < 9223372036854775808) (hb0 : 0 < b) (hd0 : 0 < d)
    (h : a * b ≤ c * d) : ref02_Cross (a : Int) (b : Int) (c : Int) (d : Int) ≤ 0 := by
  unfold ref02_Cross
  simp only
  rw [abs_abs (by omega) (by omega), abs_abs (by omega) (by omega), abs_abs (by omega) (by omega), abs_abs (by omega) (by omega), if_neg (by omega), if_neg (by omega), if_neg (by omega), if_neg (by omega),
    product_eq (by omega) (by omega), product_eq (by omega) (by omega), sign_nat, sign_nat, sign_nat, sign_nat, if_neg (show ¬ b = 0 by omega), if_neg (show ¬ d = 0 by omega)]
  have p1 := prod_nn (x := (a : Int)) (y := (b : Int)) (by omega) (by omega)
  have p2 := prod_nn (x := (c : Int)) (y := (d : Int)) (by omega) (by omega)
  have hh : (a : Int) * (b : Int) ≤ (c : Int) * (d : Int) := by exact_mod_cast h
  have hcmp : ref02_Compare (ofW ((a : Int) * (b : Int))) (ofW ((c : Int) * (d : Int))) = if (a : Int) * b < (c : Int) * d then -1 else if (a : Int) * b = (c : Int) * d then 0 else 1 := by
    have := wide_compare (ofW_ok p1.1 p1.2) (ofW_ok p2.1 p2.2)
    rw [wv_ofW, wv_ofW] at this
    exact this
  rw [hcmp]
  have k1 : w64 (1 * 1) = 1 := rfl
  have k0 : w64 (0 * 1) = 0 := rfl
  by_cases ha0 : a = 0
  · rw [if_pos ha0]
    by_cases hc0 : c = 0
    · rw [if_pos hc0, k0]
      simp [w64_eq]
    · rw [if_neg hc0, k0, k1]
      exact (by decide : (-1 : Int) ≤ 0)
  · have hc0 : ¬ c = 0 := by
      intro hc0
      subst hc0
      have : 0 < a * b := Nat.mul_pos (by omega) hb0
      omega
    rw [if_neg ha0, if_neg hc0, k1]
    simp only [Int.lt_irrefl, decide_false, cond_false, gt_iff_lt]
    by_cases hlt : (a : Int) * b < (c : Int) * d
    · rw [if_pos hlt]; decide
    · rw [if_neg hlt, if_pos (by omega)]; decide

theorem compare_le {d n e m : Nat} (hd : d < 9223372036854775808) (hn : n < 9223372036854775808) (he : e < 9223372036854775808) (hm : m < 9223372036854775808) (hn0 : 0 < n) (hm0 : 0 < m) (h : d * m ≤ e * n) :
    ∃ c, ref03_Compare (ratioOf d n) (ratioOf e m) = some c ∧ c ≤ 0 := by
  unfold ref03_Compare
  rw [ratio_valid hd hn hn0, ratio_valid he hm hm0]
  simp only [Option.bind_some, Bool.not_true, Bool.not_false, gd_true, Bool.or_self, cond_false]
  refine ⟨_, rfl, ?_⟩
  have g1 : 0 < Nat.gcd d n := Nat.gcd_pos_of_pos_right _ hn0
  have g2 : 0 < Nat.gcd e m := Nat.gcd_pos_of_pos_right _ hm0
  have l1 : Nat.gcd d n ≤ n := Nat.gcd_le_right _ hn0
  have l2 : Nat.gcd e m ≤ m := Nat.gcd_le_right _ hm0
  have a1 : d / Nat.gcd d n ≤ d := Nat.div_le_self _ _
  have a2 : n / Nat.gcd d n ≤ n := Nat.div_le_self _ _
  have a3 : e / Nat.gcd e m ≤ e := Nat.div_le_self _ _
  have a4 : m / Nat.gcd e m ≤ m := Nat.div_le_self _ _
  unfold ratioOf
  refine cross_le (by omega) (by omega) (by omega) (by omega) (Nat.div_pos l2 g2) (Nat.div_pos l1 g1) ?_
  have e1 : d / Nat.gcd d n * Nat.gcd d n = d := Nat.div_mul_cancel (Nat.gcd_dvd_left _ _)
  have e2 : n / Nat.gcd d n * Nat.gcd d n = n := Nat.div_mul_cancel (Nat.gcd_dvd_right _ _)
  have e3 : e / Nat.gcd e m * Nat.gcd e m = e := Nat.div_mul_cancel (Nat.gcd_dvd_left _ _)
  have e4 : m / Nat.gcd e m * Nat.gcd e m = m := Nat.div_mul_cancel (Nat.gcd_dvd_right _ _)
  generalize d / Nat.gcd d n = x at *
  generalize n / Nat.gcd d n = y at *
  generalize e / Nat.gcd e m = z at *
  generalize m / Nat.gcd e m = u at *
  refine Nat.le_of_mul_le_mul_right (c := Nat.gcd d n * Nat.gcd e m) ?_ (Nat.mul_pos g1 g2)
  have f1 : x * u * (Nat.gcd d n * Nat.gcd e m) = d * m := by
    rw [Nat.mul_mul_mul_comm, e1, e4]
  have f2 : z * y * (Nat.gcd d n * Nat.gcd e m) = e * n := by
    rw [Nat.mul_comm (Nat.gcd d n), Nat.mul_mul_mul_comm, e3, e2]
  rw [f1, f2]
  exact h

theorem grow (l : List api_Item) (p : api_Item) : pD l * (l.length + 1) ≤ pD (l ++ [p]) * l.length := by
  rw [pD_snoc, dist_eq]
  have := sq_nn (l.length * p.V - sumV l)
  unfold pD
  grind

theorem mvL_snoc (c : Int) (l : List api_Item) (p : api_Item) : mvL c (l ++ [p]) = mvL c l ++ [⟨0, mv p + c⟩] := by
  unfold mvL
  rw [List.map_append]
  rfl

theorem mvL_step (c : Int) (l : List api_Item) {i : Nat} (hi : i < l.length) : mvL c (l.take (i + 1)) = mvL c (l.take i) ++ [⟨0, mv l[i] + c⟩] := by
  rw [List.take_succ_eq_append_getElem hi, mvL_snoc]

theorem mvL_length (c : Int) (l : List api_Item) : (mvL c l).length = l.length := by
  unfold mvL; rw [List.length_map]

theorem compare_grow (l : List api_Item) (p : api_Item) (h1 : smallI l) (h2 : smallI (l ++ [p])) :
    ∃ c, ref03_Compare (if l = [] then ⟨0, 1⟩ else ratioOf (pD l).toNat l.length) (ratioOf (pD (l ++ [p])).toNat (l ++ [p]).length) = some c ∧ c ≤ 0 := by
  have b1 := pD_nn h1
  have b2 := pD_nn h2
  have l1 := h1.1
  have l2 := h2.1
  have hlen : (l ++ [p]).length = l.length + 1 := by simp
  have g := grow l p
  by_cases h0 : l = []
  · rw [if_pos h0]
    have := compare_le (d := 0) (n := 1) (e := (pD (l ++ [p])).toNat) (m := (l ++ [p]).length) (by omega) (by omega) (by omega) (by omega) (by omega) (by omega) (by omega)
    rw [ratio01] at this
    exact this
  · rw [if_neg h0]
    have hpos : 0 < l.length := List.length_pos_iff.2 h0
    refine compare_le (by omega) (by omega) (by omega) (by omega) hpos (by omega) ?_
    rw [hlen]
    obtain ⟨d, hd⟩ := Int.eq_ofNat_of_zero_le b1.1
    obtain ⟨e, he⟩ := Int.eq_ofNat_of_zero_le b2.1
    rw [hd, he] at g ⊢
    rw [Int.toNat_natCast, Int.toNat_natCast]
    exact_mod_cast g

theorem law08_ExactMoves_true (p0 : List api_Item) (p1 : Int) (p2 : api_Item) (_ : wfL wf_api_Item p0) (_ : wfI .i64 p1) (_ : wf_api_Item p2) : law08_ExactMoves p0 p1 p2 = some true := by
  unfold law08_ExactMoves
  rw [law08_awake_true]
  by_cases hc : (p0.length : Int) > 100
  · rw [decide_eq_true hc, cond_true]; rfl
  · rw [decide_eq_false hc, cond_false]
    obtain ⟨b, hb, b1, b2⟩ := mod_in p1 (n := 1000) (by decide) (by decide)
    have hm : p0.length ≤ maxLen := by rw [maxLen_eq]; omega
    rw [hb]
    simp only [Option.bind_some]
    unfold law08_ExactMoves_l3
    obtain ⟨r, hr, hQ⟩ := loop_ind (f := fun s : List api_Item × List api_Item × Int => law08_ExactMoves_l3s p0 p2 b s.1 s.2.1 s.2.2)
      (fun s => ∃ i : Nat, i ≤ p0.length ∧ s = (mvL 0 (p0.take i), mvL b (p0.take i), (i : Int)))
      (fun s => p0.length - s.2.2.toNat) (fun r => r = true) ([], [], 0) ⟨0, Nat.zero_le _, rfl⟩ (by
        rintro _ ⟨i, hi, rfl⟩
        simp only
        unfold law08_ExactMoves_l3s
        by_cases hlt : i < p0.length
        · left
          have hv := mv_spec p0[i]
          simp only [Int.ofNat_lt, hlt, decide_true, cond_true, idx_nat, get_some hlt, Option.bind_some, succ_nat hlt hm, hv.1]
          rw [ck_pos (by rw [decide_eq_true_eq, mvL_length, List.length_take, List.length_singleton]; omega), ck_pos (by rw [decide_eq_true_eq, mvL_length, List.length_take, List.length_singleton]; omega)]
          refine ⟨_, rfl, ⟨i + 1, hlt, ?_⟩, by show p0.length - ((i : Int) + 1).toNat < p0.length - (i : Int).toNat; omega⟩
          rw [mvL_step 0 p0 hlt, mvL_step b p0 hlt, w64_id (by omega) (by omega), Int.add_zero]
          rfl
        · right
          have hn : ¬ ((i : Int) < (p0.length : Int)) := by omega
          have hi2 : i = p0.length := by omega
          subst hi2
          rw [List.take_length]
          have hv := mv_spec p2
          have sA := mvL_small (c := 0) (by omega) (l := p0) (by omega)
          have sB := mvL_small (c := b) (by omega) (l := p0) (by omega)
          have sC := mvL_small (c := 0) (by omega) (l := p0 ++ [p2]) (by rw [List.length_append, List.length_singleton]; omega)
          rw [mvL_snoc, Int.add_zero] at sC
          obtain ⟨c, hcmp, hc0⟩ := compare_grow (mvL 0 p0) ⟨0, mv p2⟩ sA sC
          have hnil : mvL b p0 = [] ↔ mvL 0 p0 = [] := by unfold mvL; simp
          have hne : ¬ (mvL 0 p0 ++ [(⟨0, mv p2⟩ : api_Item)] = []) := by simp
          have hrat : (if mvL b p0 = [] then (⟨0, 1⟩ : api_Ratio) else ratioOf (pD (mvL b p0)).toNat (mvL b p0).length) = (if mvL 0 p0 = [] then ⟨0, 1⟩ else ratioOf (pD (mvL 0 p0)).toNat (mvL 0 p0).length) := by
            rw [mvL_pD b, mvL_length, mvL_length]
            by_cases h : mvL 0 p0 = []
            · rw [if_pos h, if_pos (hnil.2 h)]
            · rw [if_neg h, if_neg (fun h2 => h (hnil.1 h2))]
          simp only [hn, decide_false, cond_false, hv.1]
          rw [exact_spread sA, exact_spread sB, hrat]
          simp only [Option.bind_some]
          rw [ck_pos (by rw [decide_eq_true_eq, mvL_length, List.length_singleton]; omega), exact_spread sC, if_neg hne]
          simp only [Option.bind_some, Bool.and_self, beq_self_eq_true, gd_true]
          rw [hcmp]
          simp only [Option.bind_some, decide_eq_true hc0, Bool.and_self, gd_true]
          rw [law08_awake_true]
          exact ⟨_, rfl, rfl⟩)
    rw [hr, hQ]

end Go.Win
