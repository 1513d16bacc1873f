/- Pu: chapter 08: shifts of wide numbers, sums with weights that halve. -/
import Derived.Test.YtpclnmpmammlfaaPuPolys
namespace Go.Win
open Go.Vc Go.Dec

/-! ### How many bits -/

theorem bla (f : Nat) : ∀ x : Nat, x < 2 ^ f → x ≠ 0 → 1 ≤ Lib.bitLenAux f x ∧ 2 ^ (Lib.bitLenAux f x - 1) ≤ x ∧ x < 2 ^ Lib.bitLenAux f x := by
  induction f with
  | zero => intro x h h0; simp at h; exact absurd h h0
  | succ f ih =>
    intro x h h0
    unfold Lib.bitLenAux
    rw [if_neg h0]
    by_cases h1 : x / 2 = 0
    · have : x = 1 := by omega
      subst this
      have e : Lib.bitLenAux f (1 / 2) = 0 := by cases f <;> simp [Lib.bitLenAux]
      rw [e]
      simp
    · have := ih (x / 2) (by rw [Nat.pow_succ] at h; omega) h1
      obtain ⟨b1, b2, b3⟩ := this
      generalize Lib.bitLenAux f (x / 2) = b at *
      refine ⟨by omega, ?_, ?_⟩
      · obtain ⟨c, rfl⟩ : ∃ c, b = c + 1 := ⟨b - 1, by omega⟩
        rw [show 1 + (c + 1) - 1 = c + 1 by omega, Nat.pow_succ]
        rw [show c + 1 - 1 = c by omega] at b2
        omega
      · rw [Nat.add_comm, Nat.pow_succ]
        omega

theorem bitLen_bounds {x : Int} (h0 : 0 < x) (h1 : x < 18446744073709551616) : ∃ b : Nat, math_bits_Len64 x = some (b : Int) ∧ 1 ≤ b ∧ b ≤ 64 ∧ (2 : Int) ^ (b - 1) ≤ x ∧ x < 2 ^ b := by
  obtain ⟨n, rfl⟩ := Int.eq_ofNat_of_zero_le (by omega : 0 ≤ x)
  have hb := bla 64 n (by have : (2:Nat) ^ 64 = 18446744073709551616 := by decide
                          omega) (by omega)
  refine ⟨Lib.bitLen n, ?_, hb.1, ?_, ?_, ?_⟩
  · unfold math_bits_Len64
    rw [ck_pos (by rw [decide_eq_true_eq]; omega), Int.toNat_natCast]
  · have : Lib.bitLen n - 1 < 64 := by
      refine (Nat.pow_lt_pow_iff_right (a := 2) (by decide)).1 (Nat.lt_of_le_of_lt hb.2.1 ?_)
      have : (2:Nat) ^ 64 = 18446744073709551616 := by decide
      omega
    omega
  · have := hb.2.1
    exact_mod_cast this
  · have := hb.2.2
    exact_mod_cast this

/-! ### Shifts -/

theorem ior_disj {a b k : Nat} (hb : b < 2 ^ k) (h : a * 2 ^ k + b < 18446744073709551616) : ior .u64 ((a * 2 ^ k : Nat) : Int) (b : Int) = ((a * 2 ^ k + b : Nat) : Int) := by
  show IntKind.u64.wrap _ = _
  have hbits : IntKind.u64.bits = 64 := rfl
  rw [hbits, IntKind.wrap_u64, BitVec.toNat_or, BitVec.toNat_ofInt, BitVec.toNat_ofInt]
  have e1 : ((((a * 2 ^ k : Nat) : Int) % ((2 ^ 64 : Nat) : Int)).toNat) = a * 2 ^ k := by omega
  have e2 : (((b : Int) % ((2 ^ 64 : Nat) : Int)).toNat) = b := by omega
  rw [e1, e2]
  have e3 : a * 2 ^ k ||| b = a * 2 ^ k + b := by
    rw [← Nat.shiftLeft_eq, Nat.shiftLeft_add_eq_or_of_lt hb]
  rw [e3]
  omega

theorem ishl_eq (x : Int) {k : Nat} (hk : k ≤ 64) : ishl .u64 x (k : Int) = (x * 2 ^ k) % 18446744073709551616 := by
  show IntKind.u64.wrap (x * 2 ^ (min (k : Int).toNat IntKind.u64.bits)) = _
  have : min (k : Int).toNat IntKind.u64.bits = k := by
    have hbits : IntKind.u64.bits = 64 := rfl
    rw [hbits, Int.toNat_natCast]; omega
  rw [this, IntKind.wrap_u64]

theorem ishr_eq (x : Int) {k : Nat} (hk : k ≤ 64) : ishr .u64 x (k : Int) = x / 2 ^ k := by
  show x.fdiv (2 ^ (min (k : Int).toNat IntKind.u64.bits)) = _
  have : min (k : Int).toNat IntKind.u64.bits = k := by
    have hbits : IntKind.u64.bits = 64 := rfl
    rw [hbits, Int.toNat_natCast]; omega
  rw [this, Int.fdiv_eq_ediv_of_nonneg _ (Int.le_of_lt (Int.pow_pos (by decide)))]

/-- What both shifts answer. -/
noncomputable def leftW (a : api_Wide) (k : Nat) : api_Wide × Bool :=
  if wv a * 2 ^ k < 340282366920938463463374607431768211456 then (ofW (wv a * 2 ^ k), true) else (⟨0, 0⟩, false)

theorem left_val {h l k : Nat} (hk : k ≤ 63) (hl : l < 18446744073709551616) (hno : ((h : Int) * 18446744073709551616 + l) * 2 ^ k < 340282366920938463463374607431768211456) :
    (⟨ior .u64 (ishl .u64 (h : Int) (k : Int)) (ishr .u64 (l : Int) ((64 - k : Nat) : Int)), ishl .u64 (l : Int) (k : Int)⟩ : api_Wide) = ofW (((h : Int) * 18446744073709551616 + l) * 2 ^ k) := by
  have hP : ((2 : Int) ^ k) = ((2 ^ k : Nat) : Int) := by simp
  have hQ : ((2 : Int) ^ (64 - k)) = ((2 ^ (64 - k) : Nat) : Int) := by simp
  have hPQ : 2 ^ (64 - k) * 2 ^ k = 18446744073709551616 := by
    rw [← Nat.pow_add, show 64 - k + k = 64 by omega]
  rw [ishl_eq _ (by omega), ishl_eq _ (by omega), ishr_eq _ (by omega)]
  rw [hP] at hno ⊢
  rw [hQ]
  have e : ((h : Int) * 18446744073709551616 + l) * ((2 ^ k : Nat) : Int) = ((h * 2 ^ k : Nat) : Int) * 18446744073709551616 + ((l * 2 ^ k : Nat) : Int) := by
    rw [Int.natCast_mul, Int.natCast_mul]; grind
  have d1 : l / 2 ^ (64 - k) = (l * 2 ^ k) / 18446744073709551616 := by
    rw [← hPQ, Nat.mul_div_mul_right _ _ (Nat.two_pow_pos k)]
  have d2 : l / 2 ^ (64 - k) < 2 ^ k := by
    rw [Nat.div_lt_iff_lt_mul (Nat.two_pow_pos _), Nat.mul_comm, hPQ]; exact hl
  rw [e] at hno ⊢
  have c1 : (h : Int) * ((2 ^ k : Nat) : Int) = ((h * 2 ^ k : Nat) : Int) := by rw [Int.natCast_mul]
  have c2 : (l : Int) * ((2 ^ k : Nat) : Int) = ((l * 2 ^ k : Nat) : Int) := by rw [Int.natCast_mul]
  have c3 : (l : Int) / ((2 ^ (64 - k) : Nat) : Int) = ((l / 2 ^ (64 - k) : Nat) : Int) := by rw [Int.natCast_ediv]
  rw [c1, c2, c3]
  have c4 : ((h * 2 ^ k : Nat) : Int) % 18446744073709551616 = ((h * 2 ^ k : Nat) : Int) := by omega
  rw [c4, ior_disj d2 (by rw [d1]; omega), d1]
  unfold ofW
  congr 1 <;> omega

theorem pow_pos' (k : Nat) : (0 : Int) < 2 ^ k := Int.pow_pos (by decide)

theorem fits_left {h b k : Nat} (hb : 1 ≤ b) (h1 : 2 ^ (b - 1) ≤ h) (h2 : h < 2 ^ b) : (k + b ≤ 64 → (h + 1) * 2 ^ k ≤ 18446744073709551616) ∧ (64 < k + b → 18446744073709551616 ≤ h * 2 ^ k) := by
  have e : (2 : Nat) ^ 64 = 18446744073709551616 := by decide
  refine ⟨fun hk => ?_, fun hk => ?_⟩
  · have := Nat.mul_le_mul_right (2 ^ k) (show h + 1 ≤ 2 ^ b by omega)
    rw [← Nat.pow_add] at this
    have h3 := Nat.pow_le_pow_right (n := 2) (by decide) (show b + k ≤ 64 by omega)
    omega
  · have := Nat.mul_le_mul_right (2 ^ k) h1
    rw [← Nat.pow_add] at this
    have h3 := Nat.pow_le_pow_right (n := 2) (by decide) (show 64 ≤ b - 1 + k by omega)
    omega

theorem wide_left {a : api_Wide} (ha : okW a) {k : Nat} (hk : k ≤ 63) : wide_Left a (k : Int) = some (leftW a k) := by
  obtain ⟨h, l⟩ := a
  unfold okW at ha
  simp only at ha
  obtain ⟨h, rfl⟩ := Int.eq_ofNat_of_zero_le ha.1
  obtain ⟨l, rfl⟩ := Int.eq_ofNat_of_zero_le ha.2.2.1
  unfold wide_Left leftW
  have c0 : decide ((k : Int) < 0) = false := by rw [decide_eq_false_iff_not]; omega
  have wvE : wv ⟨(h : Int), (l : Int)⟩ = (h : Int) * 18446744073709551616 + l := rfl
  rw [c0, cond_false, wvE]
  have e2 : ((h : Int) * 18446744073709551616 + l) * ((2 ^ k : Nat) : Int) = ((h * 2 ^ k : Nat) : Int) * 18446744073709551616 + ((l * 2 ^ k : Nat) : Int) := by
    rw [Int.natCast_mul, Int.natCast_mul]; grind
  have hP : ((2 : Int) ^ k) = ((2 ^ k : Nat) : Int) := by simp
  have lP := Nat.mul_lt_mul_of_pos_right (show l < 18446744073709551616 by omega) (Nat.two_pow_pos k)
  have kP := Nat.pow_le_pow_right (n := 2) (by decide) hk
  have c63 : (2 : Nat) ^ 63 = 9223372036854775808 := by decide
  have ck1 : decide ((k : Int) ≥ 64) = false := by rw [decide_eq_false_iff_not]; omega
  have wk : wu64 (k : Int) = (k : Int) := by rw [wu64_eq]; omega
  have w1 : w64 (64 - (k : Int)) = ((64 - k : Nat) : Int) := by rw [w64_id] <;> omega
  have w2 : wu64 ((64 - k : Nat) : Int) = ((64 - k : Nat) : Int) := by rw [wu64_eq]; omega
  have tail : ∀ (_ : ((h : Int) * 18446744073709551616 + l) * 2 ^ k < 340282366920938463463374607431768211456),
      (cond (decide ((k : Int) ≥ (64:Int))) (
        ck (decide (0 ≤ (wu64 (w64 ((k : Int) - (64:Int)))))) <|
        some ((api_Wide.mk (ishl .u64 (l : Int) (wu64 (w64 ((k : Int) - (64:Int))))) (0:Int)), true)) <|
      ck (decide (0 ≤ (wu64 (k : Int)))) <|
      ck (decide (0 ≤ (wu64 (w64 ((64:Int) - (k : Int)))))) <|
      ck (decide (0 ≤ (wu64 (k : Int)))) <|
      some ((api_Wide.mk (ior .u64 (ishl .u64 (h : Int) (wu64 (k : Int))) (ishr .u64 (l : Int) (wu64 (w64 ((64:Int) - (k : Int)))))) (ishl .u64 (l : Int) (wu64 (k : Int)))), true))
      = some (ofW (((h : Int) * 18446744073709551616 + l) * 2 ^ k), true) := by
    intro hno
    rw [ck1, cond_false, wk, w1, w2, ck_pos (by rw [decide_eq_true_eq]; omega), ck_pos (by rw [decide_eq_true_eq]; omega), ck_pos (by rw [decide_eq_true_eq]; omega), left_val hk (by omega) hno]
  by_cases hz : h = 0 ∧ l = 0
  · obtain ⟨rfl, rfl⟩ := hz
    simp [wide_zero, ofW]
  · have z : wide_zero ⟨(h : Int), (l : Int)⟩ = false := by
      unfold wide_zero
      simp only [Bool.and_eq_false_iff, beq_eq_false_iff_ne]
      omega
    simp only [z, cond_false]
    unfold wide_Bits
    by_cases hh : h = 0
    · subst hh
      obtain ⟨b, b1, b2, b3, _, _⟩ := bitLen_bounds (x := (l : Int)) (by omega) (by omega)
      have c1 : (((0 : Nat) : Int) != 0) = false := rfl
      have c2 : decide ((k : Int) > w64 (128 - (b : Int))) = false := by
        rw [decide_eq_false_iff_not, w64_id (by omega) (by omega)]; omega
      have hno : (((0 : Nat) : Int) * 18446744073709551616 + l) * 2 ^ k < 340282366920938463463374607431768211456 := by
        rw [hP, e2, Nat.zero_mul]
        omega
      simp only [c1, cond_false, b1, Option.bind_some, c2]
      rw [if_pos hno]
      exact tail hno
    · obtain ⟨b, b1, b2, b3, b4, b5⟩ := bitLen_bounds (x := (h : Int)) (by omega) (by omega)
      have c1 : ((h : Int) != 0) = true := by rw [bne_iff_ne]; omega
      have fl := fits_left (h := h) (b := b) (k := k) b2 (by exact_mod_cast b4) (by exact_mod_cast b5)
      have w3 : w64 (64 + (b : Int)) = 64 + (b : Int) := by rw [w64_id] <;> omega
      have w4 : w64 (128 - (64 + (b : Int))) = 64 - (b : Int) := by rw [w64_id] <;> omega
      simp only [c1, cond_true, b1, Option.bind_some, w3, w4]
      by_cases hb : k + b ≤ 64
      · have c2 : decide ((k : Int) > 64 - (b : Int)) = false := by rw [decide_eq_false_iff_not]; omega
        have f1 := fl.1 hb
        rw [Nat.add_mul, Nat.one_mul] at f1
        have hno : ((h : Int) * 18446744073709551616 + l) * 2 ^ k < 340282366920938463463374607431768211456 := by
          rw [hP, e2]
          omega
        rw [c2, cond_false, if_pos hno]
        exact tail hno
      · have c2 : decide ((k : Int) > 64 - (b : Int)) = true := by rw [decide_eq_true_eq]; omega
        have f2 := fl.2 (by omega)
        rw [c2, cond_true, if_neg]
        rw [hP, e2]
        omega

theorem ref_double {a : api_Wide} (ha : okW a) : ref02_double a 0 = (ofW ((wv a * 2) % 340282366920938463463374607431768211456), wv a / 170141183460469231731687303715884105728) := by
  obtain ⟨h, l⟩ := a
  unfold okW at ha
  simp only at ha
  obtain ⟨h, rfl⟩ := Int.eq_ofNat_of_zero_le ha.1
  obtain ⟨l, rfl⟩ := Int.eq_ofNat_of_zero_le ha.2.2.1
  unfold ref02_double
  have s1 : ∀ x : Int, ishl .u64 x 1 = (x * 2) % 18446744073709551616 := fun x => by
    have := ishl_eq x (k := 1) (by decide)
    simpa using this
  have s2 : ∀ x : Int, ishr .u64 x 63 = x / 9223372036854775808 := fun x => by
    have := ishr_eq x (k := 63) (by decide)
    simpa using this
  have d1 := ior_disj (a := h % 9223372036854775808) (b := l / 9223372036854775808) (k := 1) (by omega) (by omega)
  have d2 := ior_disj (a := l % 9223372036854775808) (b := 0) (k := 1) (by omega) (by omega)
  have e1 : ((h : Int) * 2) % 18446744073709551616 = ((h % 9223372036854775808 * 2 ^ 1 : Nat) : Int) := by omega
  have e2 : ((l : Int) * 2) % 18446744073709551616 = ((l % 9223372036854775808 * 2 ^ 1 : Nat) : Int) := by omega
  have e3 : (l : Int) / 9223372036854775808 = ((l / 9223372036854775808 : Nat) : Int) := by omega
  have e4 : (0 : Int) = ((0 : Nat) : Int) := rfl
  simp only [s1, s2, e1, e2, e3]
  rw [d1]
  conv => lhs; lhs; rhs; rhs; rw [e4]
  rw [d2]
  unfold ofW wv
  simp only
  congr 1
  · congr 1 <;> omega
  · omega

theorem ref_left {a : api_Wide} (ha : okW a) {k : Nat} (hk : k ≤ 63) : ref02_Left a (k : Int) = some (leftW a k) := by
  have r := wv_range ha
  unfold ref02_Left
  have c0 : decide ((k : Int) < 0) = false := by rw [decide_eq_false_iff_not]; omega
  rw [c0, cond_false]
  cases hz : (a.Hi == 0 && (a.Lo == 0 && true)) with
  | true =>
    simp only [Bool.and_true, Bool.and_eq_true, beq_iff_eq] at hz
    obtain ⟨h, l⟩ := a
    simp only at hz
    obtain ⟨rfl, rfl⟩ := hz
    simp [leftW, wv, ofW]
  | false =>
    rw [cond_false]
    unfold ref02_Left_l4
    obtain ⟨q, hq, hQ⟩ := loop_ind (f := fun s : Int × Int × Int => ref02_Left_l4s (k : Int) s.1 s.2.1 s.2.2)
      (fun s => ∃ i : Nat, i ≤ k ∧ wv a * 2 ^ i < 340282366920938463463374607431768211456 ∧ s = ((i : Int), (ofW (wv a * 2 ^ i)).Hi, (ofW (wv a * 2 ^ i)).Lo))
      (fun s => k - s.1.toNat) (fun q => q = leftW a k) (0, a.Hi, a.Lo) ⟨0, Nat.zero_le _, by simpa using r.2, by rw [Int.pow_zero, Int.mul_one, ofW_wv ha]; rfl⟩ (by
        rintro _ ⟨i, hi, hb, rfl⟩
        simp only
        have hnn : 0 ≤ wv a * 2 ^ i := Int.mul_nonneg r.1 (Int.le_of_lt (pow_pos' i))
        have e1 : (⟨(ofW (wv a * 2 ^ i)).Hi, (ofW (wv a * 2 ^ i)).Lo⟩ : api_Wide) = ofW (wv a * 2 ^ i) := rfl
        unfold ref02_Left_l4s
        by_cases hlt : i < k
        · rw [e1, ref_double (ofW_ok hnn hb), wv_ofW]
          have e2 : wv a * 2 ^ (i + 1) = wv a * 2 ^ i * 2 := by rw [Int.pow_succ, Int.mul_assoc]
          simp only [Int.ofNat_lt, hlt, decide_true, cond_true]
          by_cases hc : wv a * 2 ^ i * 2 < 340282366920938463463374607431768211456
          · left
            have c1 : (wv a * 2 ^ i / 170141183460469231731687303715884105728 != 0) = false := by rw [bne_eq_false_iff_eq]; omega
            have e3 : wv a * 2 ^ i * 2 % 340282366920938463463374607431768211456 = wv a * 2 ^ i * 2 := by omega
            have e4 : w64 ((i : Int) + 1) = ((i + 1 : Nat) : Int) := by rw [w64_id] <;> omega
            rw [c1, cond_false, e3, e4]
            exact ⟨_, rfl, ⟨i + 1, hlt, by rw [e2]; exact hc, by rw [e2]⟩, by show k - (((i + 1 : Nat) : Int)).toNat < k - (i : Int).toNat; omega⟩
          · right
            have c1 : (wv a * 2 ^ i / 170141183460469231731687303715884105728 != 0) = true := by rw [bne_iff_ne]; omega
            rw [c1, cond_true]
            refine ⟨_, rfl, ?_⟩
            unfold leftW
            rw [if_neg]
            have e5 : wv a * 2 ^ k = wv a * 2 ^ i * 2 * 2 ^ (k - (i + 1)) := by
              rw [← e2, Int.mul_assoc, ← Int.pow_add, show i + 1 + (k - (i + 1)) = k by omega]
            have := Int.mul_le_mul (show 340282366920938463463374607431768211456 ≤ wv a * 2 ^ i * 2 by omega) (show (1 : Int) ≤ 2 ^ (k - (i + 1)) from pow_pos' _) (by decide) (by omega)
            rw [e5]
            omega
        · right
          have hik : i = k := by omega
          subst hik
          simp only [Int.lt_irrefl, decide_false, cond_false, e1]
          refine ⟨_, rfl, ?_⟩
          unfold leftW
          rw [if_pos hb])
    rw [hq, hQ]

end Go.Win
