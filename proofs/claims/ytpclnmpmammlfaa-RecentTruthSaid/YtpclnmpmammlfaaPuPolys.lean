/- Pu: chapter 08: polynomials (products and powers of wide numbers). -/
import Derived.Test.YtpclnmpmammlfaaPuSums2
namespace Go.Win
open Go.Vc Go.Dec

theorem wide_product : wide_Product = ref02_Product := rfl
theorem wide_of : wide_Of = ref02_Of := rfl

theorem split_l (a b c : Int) : (0 * 18446744073709551616 + a) * (b * 18446744073709551616 + c) = (a * b) * 18446744073709551616 + a * c := by grind
theorem split_r (a b c : Int) : (b * 18446744073709551616 + c) * (0 * 18446744073709551616 + a) = (a * b) * 18446744073709551616 + a * c := by grind

theorem big_prod {a b c d : Int} (ha : 1 ≤ a) (hb : 0 ≤ b) (hc : 1 ≤ c) (hd : 0 ≤ d) : 340282366920938463463374607431768211456 ≤ (a * 18446744073709551616 + b) * (c * 18446744073709551616 + d) := by
  have := Int.mul_le_mul (show 18446744073709551616 ≤ a * 18446744073709551616 + b by omega) (show 18446744073709551616 ≤ c * 18446744073709551616 + d by omega) (by decide) (by omega)
  simpa using this

/-- The joined part: (a's low word) times (b's both words). -/
theorem mul_j2 {h a b c : Int} (ha : 0 ≤ a ∧ a < 18446744073709551616) (hb : 0 ≤ b ∧ b < 18446744073709551616) (hc : 0 ≤ c ∧ c < 18446744073709551616) :
    wide_Mul_j2 h a b c = some (if (a * b) * 18446744073709551616 + a * c < 340282366920938463463374607431768211456 then (ofW ((a * b) * 18446744073709551616 + a * c), true) else (⟨0, 0⟩, false)) := by
  have p1 := prod_nn ha hb
  have p2 := prod_nn ha hc
  unfold wide_Mul_j2
  simp only [wide_product]
  rw [product_eq ha hc, product_eq ha hb]
  generalize a * b = m at *
  generalize a * c = n at *
  have e1 : (ofW m).Hi = m / 18446744073709551616 := rfl
  have e2 : (ofW m).Lo = m % 18446744073709551616 := rfl
  rw [e1, e2]
  by_cases hh : m < 18446744073709551616
  · have c1 : (m / 18446744073709551616 != 0) = false := by rw [bne_eq_false_iff_eq]; omega
    have oM : okW (api_Wide.mk (m % 18446744073709551616) 0) := by unfold okW; simp only; omega
    have vM : wv (api_Wide.mk (m % 18446744073709551616) 0) = m * 18446744073709551616 := by unfold wv; simp only; omega
    rw [c1, cond_false, wide_add (ofW_ok p2.1 p2.2) oM, wv_ofW, vM, Int.add_comm n]
    simp only [Option.bind_some]
  · have c1 : (m / 18446744073709551616 != 0) = true := by rw [bne_iff_ne]; omega
    rw [c1, cond_true, if_neg (by omega)]

theorem wide_mul {a b : api_Wide} (ha : okW a) (hb : okW b) : wide_Mul a b = some (if wv a * wv b < 340282366920938463463374607431768211456 then (ofW (wv a * wv b), true) else (⟨0, 0⟩, false)) := by
  obtain ⟨ah, al⟩ := a
  obtain ⟨bh, bl⟩ := b
  unfold okW at ha hb
  simp only at ha hb
  unfold wide_Mul wv
  simp only
  by_cases h1 : ah = 0
  · subst h1
    simp only [bne_self_eq_false, Bool.false_and, cond_false]
    rw [mul_j2 (by omega) (by omega) (by omega), split_l]
  · have c1 : (ah != 0) = true := by rw [bne_iff_ne]; exact h1
    rw [c1]
    by_cases h2 : bh = 0
    · subst h2
      simp only [bne_self_eq_false, Bool.and_false, cond_false, cond_true]
      rw [mul_j2 (by omega) (by omega) (by omega), split_r]
    · have c2 : (bh != 0) = true := by rw [bne_iff_ne]; exact h2
      have := big_prod (a := ah) (b := al) (c := bh) (d := bl) (by omega) (by omega) (by omega) (by omega)
      rw [c2, if_neg (by omega)]
      rfl

theorem ref_mul {a b : api_Wide} (ha : okW a) (hb : okW b) : ref02_Mul a b = some (if wv a * wv b < 340282366920938463463374607431768211456 then (ofW (wv a * wv b), true) else (⟨0, 0⟩, false)) := by
  obtain ⟨ah, al⟩ := a
  obtain ⟨bh, bl⟩ := b
  unfold okW at ha hb
  simp only at ha hb
  unfold ref02_Mul wv
  simp only
  have q1 := prod_nn (x := ah) (y := bl) (by omega) (by omega)
  have q2 := prod_nn (x := al) (y := bh) (by omega) (by omega)
  have q3 := prod_nn (x := al) (y := bl) (by omega) (by omega)
  rw [product_eq (by omega) (by omega), product_eq (by omega) (by omega), product_eq (by omega) (by omega)]
  have f1 : (ofW (ah * bl)).Hi = ah * bl / 18446744073709551616 := rfl
  have f2 : (ofW (ah * bl)).Lo = ah * bl % 18446744073709551616 := rfl
  have f3 : (ofW (al * bh)).Hi = al * bh / 18446744073709551616 := rfl
  have f4 : (ofW (al * bh)).Lo = al * bh % 18446744073709551616 := rfl
  rw [f1, f2, f3, f4, wu64_eq]
  by_cases h3 : ah ≠ 0 ∧ bh ≠ 0
  · have c1 : (ah != 0) = true := by rw [bne_iff_ne]; exact h3.1
    have c2 : (bh != 0) = true := by rw [bne_iff_ne]; exact h3.2
    have := big_prod (a := ah) (b := al) (c := bh) (d := bl) (by omega) (by omega) (by omega) (by omega)
    rw [c1, c2, if_neg (by omega)]
    rfl
  · have c1 : ((ah != 0) && (bh != 0)) = false := by
      rw [Bool.and_eq_false_iff, bne_eq_false_iff_eq, bne_eq_false_iff_eq]; omega
    have e : (ah * 18446744073709551616 + al) * (bh * 18446744073709551616 + bl) = (ah * bl + al * bh) * 18446744073709551616 + al * bl := by
      by_cases h1 : ah = 0
      · subst h1; grind
      · have h2 : bh = 0 := by omega
        subst h2; grind
    have z : ah * bl = 0 ∨ al * bh = 0 := by
      by_cases h1 : ah = 0
      · left; rw [h1, Int.zero_mul]
      · right; rw [show bh = 0 by omega, Int.mul_zero]
    rw [c1, cond_false, e]
    generalize ah * bl = m at *
    generalize al * bh = n at *
    generalize al * bl = k at *
    by_cases hh : m + n < 18446744073709551616
    · have c2 : ((m / 18446744073709551616 != 0) || (n / 18446744073709551616 != 0)) = false := by
        rw [Bool.or_eq_false_iff, bne_eq_false_iff_eq, bne_eq_false_iff_eq]; omega
      have oM : okW (api_Wide.mk ((m % 18446744073709551616 + n % 18446744073709551616) % 18446744073709551616) 0) := by unfold okW; simp only; omega
      have vM : wv (api_Wide.mk ((m % 18446744073709551616 + n % 18446744073709551616) % 18446744073709551616) 0) = (m + n) * 18446744073709551616 := by unfold wv; simp only; omega
      rw [c2, cond_false, ref_wide_add, wide_add (ofW_ok q3.1 q3.2) oM, wv_ofW, vM, Int.add_comm k]
      simp only [Option.bind_some]
    · have c2 : ((m / 18446744073709551616 != 0) || (n / 18446744073709551616 != 0)) = true := by
        rw [Bool.or_eq_true, bne_iff_ne, bne_iff_ne]; omega
      rw [c2, cond_true, if_neg (by omega)]

theorem of_ok {n : Int} (h : 0 ≤ n ∧ n < 18446744073709551616) : okW (ref02_Of n) := by
  unfold okW ref02_Of; simp only; omega

/-! ### Powers -/

/-- k times times n, given up at the first that is too large. -/
noncomputable def powW (n : Int) : Nat → api_Wide → api_Wide × Bool
  | 0, w => (w, true)
  | k + 1, w => if wv w * wv (ref02_Of n) < 340282366920938463463374607431768211456 then powW n k (ofW (wv w * wv (ref02_Of n))) else (⟨0, 0⟩, false)

theorem mul_nn {a b : api_Wide} (ha : okW a) (hb : okW b) : 0 ≤ wv a * wv b := Int.mul_nonneg (wv_range ha).1 (wv_range hb).1

theorem powW_ok {n : Int} (hn : 0 ≤ n ∧ n < 18446744073709551616) : ∀ (k : Nat) (w : api_Wide), okW w → okW (powW n k w).1
  | 0, _, h => h
  | k + 1, w, h => by
    unfold powW
    split
    · exact powW_ok hn k _ (ofW_ok (mul_nn h (of_ok hn)) (by assumption))
    · unfold okW; simp

theorem wide_pow_loop {n : Int} (hn : 0 ≤ n ∧ n < 18446744073709551616) (k : Nat) : ∀ (w : api_Wide), (k : Int) ≤ 9223372036854775807 → okW w → wide_Pow_l5 n (k : Int) w.Hi w.Lo = some (powW n k w) := by
  induction k with
  | zero =>
    intro w _ h
    unfold wide_Pow_l5
    rw [loop_inr (r := (w, true))]
    · rfl
    · have c1 : decide (((0 : Nat) : Int) > 0) = false := by rw [decide_eq_false_iff_not]; omega
      simp only [wide_Pow_l5s, c1, cond_false]
      rfl
  | succ k ih0 =>
    intro w hk h
    have ih := fun w' h' => ih0 w' (by omega) h'
    unfold wide_Pow_l5 at ih ⊢
    have c1 : decide (((k + 1 : Nat) : Int) > 0) = true := by rw [decide_eq_true_eq]; omega
    have e1 : (⟨w.Hi, w.Lo⟩ : api_Wide) = w := rfl
    have hw : w64 (((k + 1 : Nat) : Int) - 1) = (k : Int) := by rw [w64_id] <;> omega
    unfold powW
    by_cases hf : wv w * wv (ref02_Of n) < 340282366920938463463374607431768211456
    · rw [if_pos hf, loop_inl (s' := ((k : Int), (ofW (wv w * wv (ref02_Of n))).Hi, (ofW (wv w * wv (ref02_Of n))).Lo))]
      · exact ih _ (ofW_ok (mul_nn h (of_ok hn)) hf)
      · simp only [wide_Pow_l5s, c1, cond_true, e1, wide_of, wide_mul h (of_ok hn), if_pos hf, Option.bind_some, Bool.not_true, cond_false, hw]
    · rw [if_neg hf, loop_inr (r := (⟨0, 0⟩, false))]
      simp only [wide_Pow_l5s, c1, cond_true, e1, wide_of, wide_mul h (of_ok hn), if_neg hf, Option.bind_some, Bool.not_false]

theorem ref_pow_loop {n : Int} (hn : 0 ≤ n ∧ n < 18446744073709551616) (K : Int) (hK : K ≤ 9223372036854775807) (k : Nat) : ∀ (w : api_Wide), (k : Int) ≤ K → okW w →
    ref02_Pow_l5 n K true (K - k) w.Hi w.Lo = some (powW n k w) := by
  induction k with
  | zero =>
    intro w _ h
    unfold ref02_Pow_l5
    rw [loop_inr (r := (w, true))]
    · rfl
    · have c1 : (decide (K - ((0 : Nat) : Int) < K) && true) = false := by rw [Bool.and_true, decide_eq_false_iff_not]; omega
      simp only [ref02_Pow_l5s, c1, cond_false]
      rfl
  | succ k ih0 =>
    intro w hk h
    have ih := fun w' h' => ih0 w' (by omega) h'
    unfold ref02_Pow_l5 at ih ⊢
    have c1 : (decide (K - ((k + 1 : Nat) : Int) < K) && true) = true := by rw [Bool.and_true, decide_eq_true_eq]; omega
    have e1 : (⟨w.Hi, w.Lo⟩ : api_Wide) = w := rfl
    have hw : w64 (K - ((k + 1 : Nat) : Int) + 1) = K - (k : Int) := by rw [w64_id] <;> omega
    unfold powW
    by_cases hf : wv w * wv (ref02_Of n) < 340282366920938463463374607431768211456
    · rw [if_pos hf, loop_inl (s' := (true, K - (k : Int), (ofW (wv w * wv (ref02_Of n))).Hi, (ofW (wv w * wv (ref02_Of n))).Lo))]
      · exact ih _ (ofW_ok (mul_nn h (of_ok hn)) hf)
      · simp only [ref02_Pow_l5s, c1, cond_true, e1, ref_mul h (of_ok hn), if_pos hf, Option.bind_some, hw]
    · rw [if_neg hf, loop_inl (s' := (false, K - (k : Int), 0, 0)), loop_inr (r := (⟨0, 0⟩, false))]
      · simp only [ref02_Pow_l5s, Bool.and_false, cond_false]
        rfl
      · simp only [ref02_Pow_l5s, c1, cond_true, e1, ref_mul h (of_ok hn), if_neg hf, Option.bind_some, hw]

theorem one_ok : okW (api_Wide.mk 0 1) := by unfold okW; simp

theorem pows {n k : Int} (hn : 0 ≤ n ∧ n < 18446744073709551616) (hk : 0 ≤ k ∧ k ≤ 9223372036854775807) :
    ∃ r, wide_Pow n k = some r ∧ ref02_Pow n k = some r ∧ okW r.1 := by
  unfold wide_Pow ref02_Pow
  have c0 : decide (k < 0) = false := by rw [decide_eq_false_iff_not]; omega
  rw [c0, cond_false, cond_false]
  by_cases h1 : n ≤ 1
  · rw [decide_eq_true h1, cond_true]
    by_cases h2 : k = 0
    · subst h2
      exact ⟨(api_Wide.mk 0 1, true), by first | rfl | (simp; done) | (simp; rfl), by first | rfl | (simp; done) | (simp; rfl), one_ok⟩
    · have c2 : (k == 0) = false := by rw [beq_eq_false_iff_ne]; exact h2
      have c3 : decide (k > 0) = true := by rw [decide_eq_true_eq]; omega
      rw [c2, c3]
      by_cases h3 : n = 0
      · subst h3
        exact ⟨(api_Wide.mk 0 0, true), by first | rfl | (simp; done) | (simp; rfl), by first | rfl | (simp; done) | (simp; rfl), by unfold okW; simp⟩
      · have : n = 1 := by omega
        subst this
        exact ⟨(api_Wide.mk 0 1, true), by first | rfl | (simp; done) | (simp; rfl), by first | rfl | (simp; done) | (simp; rfl), one_ok⟩
  · rw [decide_eq_false h1, cond_false]
    have c1 : (n == 1) = false := by rw [beq_eq_false_iff_ne]; omega
    have c2 : (n == 0) = false := by rw [beq_eq_false_iff_ne]; omega
    rw [c1, c2, Bool.or_false, cond_false]
    obtain ⟨m, rfl⟩ := Int.eq_ofNat_of_zero_le hk.1
    have e1 := wide_pow_loop hn m (api_Wide.mk 0 1) (by omega) one_ok
    have e2 := ref_pow_loop hn (m : Int) (by omega) m (api_Wide.mk 0 1) (by omega) one_ok
    rw [Int.sub_self] at e2
    refine ⟨_, e1, ?_, powW_ok hn m _ one_ok⟩
    by_cases h2 : (m : Int) = 0
    · have : m = 0 := by omega
      subst this
      rfl
    · have c3 : ((m : Int) == 0) = false := by rw [beq_eq_false_iff_ne]; exact h2
      rw [c3, cond_false]
      exact e2

/-! ### The polynomial -/

theorem wu_range (n : Int) : 0 ≤ wu64 n ∧ wu64 n < 18446744073709551616 := by rw [wu64_eq]; omega

theorem poly_step (p0 : List api_Item) (p1 p2 : Int) (hk : 0 ≤ p2 ∧ p2 ≤ 9223372036854775807) (a b c : Int) : exact_Poly_l3s p0 p1 p2 a b c = ref08_Poly_l3s p0 p1 p2 a b c := by
  unfold exact_Poly_l3s ref08_Poly_l3s
  congr 1
  congr 1
  funext x
  show cond _ _ _ = cond _ _ _
  congr 1
  obtain ⟨r, e1, e2, o⟩ := pows (n := wu64 (w64 ((w64 (x.T - p1)) + (1:Int)))) (k := p2) (wu_range _) hk
  rw [e1, e2]
  simp only [Option.bind_some, wide_of]
  rw [wide_mul o (of_ok (wu_range _)), ref_mul (of_ok (wu_range _)) o, Int.mul_comm]
  rfl

theorem poly_eq (p0 : List api_Item) (p1 p2 : Int) : exact_Poly p0 p1 p2 = ref08_Poly p0 p1 p2 := by
  unfold exact_Poly ref08_Poly
  show cond _ _ _ = cond _ _ _
  cases hc : (((decide (p2 < (0:Int))) || (decide (p2 > (4:Int)))) || (!(exact_tick p1))) with
  | true =>
    have : (((decide (p2 < (0:Int))) || (decide (p2 > (4:Int)))) || (!(ref06_Tick p1))) = true := hc
    rw [this]; rfl
  | false =>
    have : (((decide (p2 < (0:Int))) || (decide (p2 > (4:Int)))) || (!(ref06_Tick p1))) = false := hc
    rw [this, cond_false, cond_false]
    simp only [Bool.or_eq_false_iff, decide_eq_false_iff_not] at hc
    unfold exact_Poly_l3 ref08_Poly_l3
    congr 1
    funext s
    exact poly_step p0 p1 p2 (by omega) _ _ _

theorem poly_some (p0 : List api_Item) (p1 p2 : Int) (hl : p0.length ≤ 1000) : ∃ r, exact_Poly p0 p1 p2 = some r := by
  unfold exact_Poly
  have hm : p0.length ≤ maxLen := by rw [maxLen_eq]; omega
  show ∃ r, cond _ _ _ = some r
  cases hc : (((decide (p2 < (0:Int))) || (decide (p2 > (4:Int)))) || (!(exact_tick p1))) with
  | true => exact ⟨_, rfl⟩
  | false =>
    simp only [Bool.or_eq_false_iff, decide_eq_false_iff_not] at hc
    rw [cond_false]
    unfold exact_Poly_l3
    obtain ⟨r, hr, _⟩ := loop_ind (f := fun s : Int × Int × Int => exact_Poly_l3s p0 p1 p2 s.1 s.2.1 s.2.2)
      (fun s => ∃ (i : Nat) (P : api_Wide), i ≤ p0.length ∧ okW P ∧ s = ((i : Int), P.Hi, P.Lo))
      (fun s => p0.length - s.1.toNat) (fun _ => True) (0, 0, 0) ⟨0, ⟨0, 0⟩, Nat.zero_le _, by unfold okW; simp, rfl⟩ (by
        rintro _ ⟨i, P, hi, oP, rfl⟩
        simp only
        unfold exact_Poly_l3s
        by_cases hlt : i < p0.length
        · simp only [Int.ofNat_lt, hlt, decide_true, cond_true, idx_nat, get_some hlt, Option.bind_some, succ_nat hlt hm]
          generalize (((decide (p0[i].V < (0:Int))) || (!(exact_tick p0[i].T))) || (decide (p0[i].T < p1))) = c
          cases c with
          | true => right; exact ⟨_, rfl, trivial⟩
          | false =>
            obtain ⟨r, e1, _, o⟩ := pows (n := wu64 (w64 ((w64 (p0[i].T - p1)) + (1:Int)))) (k := p2) (wu_range _) (by omega)
            rw [cond_false, e1]
            simp only [Option.bind_some, wide_of]
            rw [wide_mul o (of_ok (wu_range _))]
            simp only [Option.bind_some]
            by_cases hf : wv r.1 * wv (ref02_Of (wu64 p0[i].V)) < 340282366920938463463374607431768211456
            · rw [if_pos hf]
              have e2 : (⟨P.Hi, P.Lo⟩ : api_Wide) = P := rfl
              have o2 := ofW_ok (mul_nn o (of_ok (wu_range p0[i].V))) hf
              simp only [Bool.not_true, cond_false, e2]
              rw [wide_add oP o2]
              simp only [Option.bind_some]
              by_cases hg : wv P + wv (ofW (wv r.1 * wv (ref02_Of (wu64 p0[i].V)))) < 340282366920938463463374607431768211456
              · left
                rw [if_pos hg]
                have := wv_range oP
                have := wv_range o2
                exact ⟨_, rfl, ⟨i + 1, _, hlt, ofW_ok (by omega) hg, rfl⟩, by show p0.length - ((i : Int) + 1).toNat < p0.length - (i : Int).toNat; omega⟩
              · right
                rw [if_neg hg]
                exact ⟨_, rfl, trivial⟩
            · right
              rw [if_neg hf]
              exact ⟨_, rfl, trivial⟩
        · right
          have hn : ¬ ((i : Int) < (p0.length : Int)) := by omega
          simp only [hn, decide_false, cond_false]
          exact ⟨_, rfl, trivial⟩)
    exact ⟨r, hr⟩

theorem law08_ExactPolys_true (p0 : List api_Item) (p1 p2 : Int) (_ : wfL wf_api_Item p0) (_ : wfI .i64 p1) (_ : wfI .i64 p2) : law08_ExactPolys p0 p1 p2 = some true := by
  unfold law08_ExactPolys
  by_cases hc : (p0.length : Int) > 300
  · rw [decide_eq_true hc, cond_true, law08_awake_true]; rfl
  · obtain ⟨r, hr⟩ := poly_some p0 p1 p2 (by omega)
    rw [decide_eq_false hc, cond_false, ← poly_eq, hr, law08_awake_true]
    simp only [Option.bind_some, beq_self_eq_true, Bool.and_self, gd_true]

end Go.Win
