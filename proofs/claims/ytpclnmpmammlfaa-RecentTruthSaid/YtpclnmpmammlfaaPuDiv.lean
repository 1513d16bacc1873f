/- Pu: division and greatest common divisors of wide numbers. -/
import Derived.Test.YtpclnmpmammlfaaPuHalves
namespace Go.Win
open Go.Vc Go.Dec

theorem ref_double_bit {a : api_Wide} (ha : okW a) {b : Nat} (hb : b < 2) : ref02_double a (b : Int) = (ofW ((wv a * 2 + b) % 340282366920938463463374607431768211456), wv a / 170141183460469231731687303715884105728) := by
  obtain ⟨h, l⟩ := a
  unfold okW at ha
  simp only at ha
  obtain ⟨h, rfl⟩ := Int.eq_ofNat_of_zero_le ha.1
  obtain ⟨l, rfl⟩ := Int.eq_ofNat_of_zero_le ha.2.2.1
  unfold ref02_double
  have s1 : ∀ x : Int, ishl .u64 x 1 = (x * 2) % 18446744073709551616 := fun x => by
    have := ishl_eq x (k := 1) (by decide)
    simpa using this
  have s2 : ∀ x : Int, ishr .u64 x 63 = x / 9223372036854775808 := fun x => by
    have := ishr_eq x (k := 63) (by decide)
    simpa using this
  have d1 := ior_disj (a := h % 9223372036854775808) (b := l / 9223372036854775808) (k := 1) (by omega) (by omega)
  have d2 := ior_disj (a := l % 9223372036854775808) (b := b) (k := 1) (by omega) (by omega)
  have e1 : ((h : Int) * 2) % 18446744073709551616 = ((h % 9223372036854775808 * 2 ^ 1 : Nat) : Int) := by omega
  have e2 : ((l : Int) * 2) % 18446744073709551616 = ((l % 9223372036854775808 * 2 ^ 1 : Nat) : Int) := by omega
  have e3 : (l : Int) / 9223372036854775808 = ((l / 9223372036854775808 : Nat) : Int) := by omega
  simp only [s1, s2, e1, e2, e3]
  rw [d1, d2]
  unfold ofW wv
  simp only
  congr 1
  · congr 1 <;> omega
  · omega

theorem iand1 {x : Int} (h0 : 0 ≤ x) (h1 : x < 18446744073709551616) : iand .u64 x 1 = x % 2 := by
  show IntKind.u64.wrap _ = _
  obtain ⟨n, rfl⟩ := Int.eq_ofNat_of_zero_le h0
  have e : (BitVec.ofInt IntKind.u64.bits (n : Int) &&& BitVec.ofInt IntKind.u64.bits 1).toNat = n % 2 := by
    have hb : IntKind.u64.bits = 64 := rfl
    rw [hb, BitVec.toNat_and, BitVec.toNat_ofInt, BitVec.toNat_ofInt]
    have h2 : (((n : Int) % ((2 ^ 64 : Nat) : Int)).toNat) = n := by omega
    have h3 : ((1 : Int) % ((2 ^ 64 : Nat) : Int)).toNat = 2 ^ 1 - 1 := by decide
    rw [h2, h3, Nat.and_two_pow_sub_one_eq_mod]
  rw [e, IntKind.wrap_u64]; omega

theorem pow_split {m n : Nat} (h : m ≤ n) : (2 : Int) ^ n = 2 ^ m * 2 ^ (n - m) := by
  rw [← Int.pow_add, show m + (n - m) = n by omega]

theorem ref_bit {a : api_Wide} (ha : okW a) {i : Nat} (hi : i ≤ 127) : ref02_bit a (i : Int) = some ((wv a / 2 ^ i) % 2) := by
  unfold okW at ha
  unfold ref02_bit wv
  have p64 : (2 : Int) ^ 64 = 18446744073709551616 := by decide
  by_cases h : 64 ≤ i
  · rw [decide_eq_true (by omega : (i : Int) ≥ 64), cond_true]
    have e1 : wu64 (w64 ((i : Int) - 64)) = ((i - 64 : Nat) : Int) := by rw [w64_id (by omega) (by omega), wu64_eq]; omega
    rw [e1, ck_pos (by rw [decide_eq_true_eq]; omega), ishr_eq _ (by omega)]
    have p := pow_pos' (i - 64)
    have e2 : (a.Hi * 18446744073709551616 + a.Lo) / 2 ^ i = a.Hi / 2 ^ (i - 64) := by
      rw [pow_split h, p64, ← Int.ediv_ediv_of_nonneg (by decide)]
      congr 1
      omega
    have e3 : 0 ≤ a.Hi / 2 ^ (i - 64) := Int.ediv_nonneg ha.1 (by omega)
    have e4 : a.Hi / 2 ^ (i - 64) ≤ a.Hi := Int.ediv_le_self _ ha.1
    rw [e2, iand1 e3 (by omega)]
  · rw [decide_eq_false (by omega : ¬ (i : Int) ≥ 64), cond_false]
    have e1 : wu64 (i : Int) = (i : Int) := by rw [wu64_eq]; omega
    rw [e1, ck_pos (by rw [decide_eq_true_eq]; omega), ishr_eq _ (by omega)]
    have p := pow_pos' i
    have e3 : 0 ≤ a.Lo / 2 ^ i := Int.ediv_nonneg ha.2.2.1 (by omega)
    have e4 : a.Lo / 2 ^ i ≤ a.Lo := Int.ediv_le_self _ ha.2.2.1
    rw [iand1 e3 (by omega)]
    have e5 : (a.Hi * 18446744073709551616 + a.Lo) / 2 ^ i = a.Lo / 2 ^ i + 2 * (a.Hi * 2 ^ (63 - i)) := by
      have : a.Hi * 18446744073709551616 + a.Lo = a.Lo + 2 ^ i * (2 * (a.Hi * 2 ^ (63 - i))) := by
        have q := pow_split (m := i) (n := 63) (by omega)
        have p63 : (2 : Int) ^ 63 = 9223372036854775808 := by decide
        rw [p63] at q
        have : (2 : Int) ^ i * (2 * (a.Hi * 2 ^ (63 - i))) = 2 * (a.Hi * (2 ^ i * 2 ^ (63 - i))) := by grind
        rw [this, ← q]
        omega
      rw [this, Int.add_mul_ediv_left _ _ (by omega)]
    rw [e5]
    congr 1
    omega

theorem divmod_unique {a b q r : Int} (h : a = q * b + r) (h0 : 0 ≤ r) (h1 : r < b) : a / b = q ∧ a % b = r := by
  rw [Int.ediv_emod_unique (by omega)]
  refine ⟨?_, h0, h1⟩
  rw [h, Int.mul_comm]; omega

theorem ref_div {a b : api_Wide} (ha : okW a) (hb : okW b) (h0 : 0 < wv b) : ref02_Div a b = some (ofW (wv a / wv b), ofW (wv a % wv b), true) := by
  have ra := wv_range ha
  have rb := wv_range hb
  have hne : (b.Hi == 0 && (b.Lo == 0 && true)) = false := by
    unfold wv at h0
    unfold okW at hb
    simp only [Bool.and_true, Bool.and_eq_false_iff, beq_eq_false_iff_ne]
    omega
  unfold ref02_Div
  rw [hne, cond_false]
  unfold ref02_Div_l3
  generalize hA : wv a = A at *
  generalize hB : wv b = B at *
  obtain ⟨r, hr, hQ⟩ := loop_ind (f := fun s : Int × Int × Int × Int × Int => ref02_Div_l3s a b s.1 s.2.1 s.2.2.1 s.2.2.2.1 s.2.2.2.2)
    (fun s => ∃ k : Nat, k ≤ 128 ∧ s = ((k : Int) - 1, (ofW (A / 2 ^ k / B)).Hi, (ofW (A / 2 ^ k / B)).Lo, (ofW (A / 2 ^ k % B)).Hi, (ofW (A / 2 ^ k % B)).Lo))
    (fun s => (s.1 + 1).toNat) (fun r => r = (ofW (A / B), ofW (A % B), true)) (127, 0, 0, 0, 0) ⟨128, Nat.le_refl _, by
      have : A / 2 ^ 128 = 0 := by
        have : (2 : Int) ^ 128 = 340282366920938463463374607431768211456 := by decide
        rw [this]; omega
      rw [this]
      simp [ofW]⟩ (by
      rintro _ ⟨k, hk, rfl⟩
      simp only
      unfold ref02_Div_l3s
      cases k with
      | zero =>
        right
        rw [decide_eq_false (by omega : ¬ (((0 : Nat) : Int) - 1 ≥ 0)), cond_false]
        refine ⟨_, rfl, ?_⟩
        simp only [Int.pow_zero, Int.ediv_one]
      | succ i =>
        left
        have e0 : (((i + 1 : Nat) : Int) - 1) = (i : Int) := by omega
        rw [e0, decide_eq_true (by omega : (i : Int) ≥ 0), cond_true, ref_bit ha (by omega), hA]
        simp only [Option.bind_some]
        have hA2 : A / 2 ^ (i + 1) = A / 2 ^ i / 2 := by
          rw [Int.pow_succ, Int.ediv_ediv_of_nonneg (by have := pow_pos' i; omega)]
        have hAi0 : 0 ≤ A / 2 ^ i := Int.ediv_nonneg ra.1 (by have := pow_pos' i; omega)
        have hAi1 : A / 2 ^ i ≤ A := Int.ediv_le_self _ ra.1
        rw [hA2]
        generalize hNd : A / 2 ^ i = N at *
        obtain ⟨β, hβ⟩ := Int.eq_ofNat_of_zero_le (show 0 ≤ N % 2 by omega)
        have hβ2 : β < 2 := by omega
        have hR0 : 0 ≤ N / 2 % B := Int.emod_nonneg _ (by omega)
        have hR1 : N / 2 % B < B := Int.emod_lt_of_pos _ h0
        have hQ0 : 0 ≤ N / 2 / B := Int.ediv_nonneg (by omega) (by omega)
        have hQ1 : N / 2 / B ≤ N / 2 := Int.ediv_le_self _ (by omega)
        have hQR := Int.mul_ediv_add_emod (N / 2) B
        generalize hRR : N / 2 % B = R at *
        generalize hQQ : N / 2 / B = Q at *
        have hN : N = (2 * Q) * B + (2 * R + β) := by
          have : B * Q = Q * B := Int.mul_comm _ _
          have : 2 * Q * B = 2 * (Q * B) := Int.mul_assoc _ _ _
          omega
        have oR : okW (ofW R) := ofW_ok hR0 (by omega)
        have oQ : okW (ofW Q) := ofW_ok hQ0 (by omega)
        have eR : (⟨(ofW R).Hi, (ofW R).Lo⟩ : api_Wide) = ofW R := rfl
        rw [eR, hβ, ref_double_bit oR hβ2, wv_ofW]
        have hX0 : 0 ≤ (R * 2 + β) % 340282366920938463463374607431768211456 := by omega
        have hX1 : (R * 2 + β) % 340282366920938463463374607431768211456 < 340282366920938463463374607431768211456 := by omega
        have oX := ofW_ok hX0 hX1
        have hc : ref02_Compare (ofW ((R * 2 + β) % 340282366920938463463374607431768211456)) b = if (R * 2 + β) % 340282366920938463463374607431768211456 < B then -1 else if (R * 2 + β) % 340282366920938463463374607431768211456 = B then 0 else 1 := by
          have := wide_compare oX hb
          rw [wv_ofW, hB] at this
          exact this
        simp only [hc]
        have ew : w64 ((i : Int) - 1) = (i : Int) - 1 := by rw [w64_id] <;> omega
        by_cases hge : B ≤ 2 * R + β
        · have c1 : ((R / 170141183460469231731687303715884105728 != 0) || decide ((if (R * 2 + β) % 340282366920938463463374607431768211456 < B then (-1:Int) else if (R * 2 + β) % 340282366920938463463374607431768211456 = B then 0 else 1) ≥ 0)) = true := by
            rw [Bool.or_eq_true, bne_iff_ne, decide_eq_true_eq]
            by_cases ho : R / 170141183460469231731687303715884105728 = 0
            · right
              rw [if_neg (by omega)]
              split <;> omega
            · exact .inl ho
          rw [c1, cond_true]
          have dm := divmod_unique (a := N) (b := B) (q := 2 * Q + 1) (r := 2 * R + β - B) (by rw [Int.add_mul, hN]; omega) (by omega) (by omega)
          have oD : okW (ofW ((R * 2 + β) % 340282366920938463463374607431768211456)) := oX
          unfold okW at oX hb
          unfold wv at hB
          rw [sub64 _ _ _ (by omega) (by omega) (by omega) (by omega) (by omega)]
          simp only [Option.bind_some]
          have hbw : (if (ofW ((R * 2 + β) % 340282366920938463463374607431768211456)).Lo < b.Lo + 0 then (1:Int) else 0) ≤ 1 ∧ 0 ≤ (if (ofW ((R * 2 + β) % 340282366920938463463374607431768211456)).Lo < b.Lo + 0 then (1:Int) else 0) := by split <;> omega
          rw [sub64 _ _ _ (by omega) (by omega) (by omega) (by omega) (by omega)]
          simp only [Option.bind_some]
          unfold ref02_Div_j6
          simp only
          rw [show (⟨(ofW Q).Hi, (ofW Q).Lo⟩ : api_Wide) = ofW Q from rfl]
          have hdb := ref_double_bit oQ (b := 1) (by omega)
          rw [wv_ofW] at hdb
          change ref02_double (ofW Q) 1 = (ofW ((Q * 2 + 1) % 340282366920938463463374607431768211456), _) at hdb
          rw [hdb, ew]
          have hQ2 : 2 * Q + 1 ≤ N := by
            have := Int.ediv_le_self B (show 0 ≤ N by omega)
            omega
          refine ⟨_, rfl, ⟨i, by omega, ?_⟩, by show ((i : Int) - 1 + 1).toNat < ((i : Int) + 1).toNat; omega⟩
          rw [hNd, dm.1, dm.2]
          have : (Q * 2 + 1) % 340282366920938463463374607431768211456 = 2 * Q + 1 := by omega
          rw [this]
          unfold ofW at hbw ⊢
          simp only at hbw ⊢
          congr 3
          split
          · congr 1 <;> omega
          · congr 1 <;> omega
        · have hX : (R * 2 + β) % 340282366920938463463374607431768211456 = 2 * R + β := by omega
          have c1 : ((R / 170141183460469231731687303715884105728 != 0) || decide ((if (R * 2 + β) % 340282366920938463463374607431768211456 < B then (-1:Int) else if (R * 2 + β) % 340282366920938463463374607431768211456 = B then 0 else 1) ≥ 0)) = false := by
            rw [Bool.or_eq_false_iff, bne_eq_false_iff_eq, decide_eq_false_iff_not]
            refine ⟨by omega, ?_⟩
            rw [if_pos (by omega)]
            omega
          rw [c1, cond_false]
          have dm := divmod_unique (a := N) (b := B) (q := 2 * Q) (r := 2 * R + β) hN (by omega) (by omega)
          unfold ref02_Div_j6
          simp only
          rw [show (⟨(ofW Q).Hi, (ofW Q).Lo⟩ : api_Wide) = ofW Q from rfl]
          have hdb := ref_double_bit oQ (b := 0) (by omega)
          rw [wv_ofW] at hdb
          change ref02_double (ofW Q) 0 = (ofW ((Q * 2 + 0) % 340282366920938463463374607431768211456), _) at hdb
          rw [hdb, ew]
          refine ⟨_, rfl, ⟨i, by omega, ?_⟩, by show ((i : Int) - 1 + 1).toNat < ((i : Int) + 1).toNat; omega⟩
          rw [hNd, dm.1, dm.2, hX]
          have : (Q * 2 + 0) % 340282366920938463463374607431768211456 = 2 * Q := by omega
          rw [this])
  rw [hr, hQ]

theorem ref_gcd {a b : api_Wide} (ha : okW a) (hb : okW b) : ref02_Gcd a b = some (ofW (Nat.gcd (wv a).toNat (wv b).toNat : Nat)) := by
  unfold ref02_Gcd ref02_Gcd_l2
  obtain ⟨r, hr, hQ⟩ := loop_ind (f := fun s : Int × Int × Int × Int => ref02_Gcd_l2s s.1 s.2.1 s.2.2.1 s.2.2.2)
    (fun s => okW ⟨s.1, s.2.1⟩ ∧ okW ⟨s.2.2.1, s.2.2.2⟩ ∧ Nat.gcd (wv ⟨s.1, s.2.1⟩).toNat (wv ⟨s.2.2.1, s.2.2.2⟩).toNat = Nat.gcd (wv a).toNat (wv b).toNat)
    (fun s => (wv ⟨s.2.2.1, s.2.2.2⟩).toNat) (fun r => r = ofW (Nat.gcd (wv a).toNat (wv b).toNat : Nat)) (a.Hi, a.Lo, b.Hi, b.Lo) ⟨ha, hb, rfl⟩ (by
      rintro ⟨x1, x2, y1, y2⟩ ⟨hx, hy, hg⟩
      simp only at hx hy hg ⊢
      have rx := wv_range hx
      have ry := wv_range hy
      unfold ref02_Gcd_l2s
      by_cases h0 : wv ⟨y1, y2⟩ = 0
      · right
        have hz : y1 = 0 ∧ y2 = 0 := by unfold wv at h0; unfold okW at hy; simp only at h0 hy; omega
        obtain ⟨rfl, rfl⟩ := hz
        refine ⟨_, rfl, ?_⟩
        rw [← hg, h0]
        simp only [Int.toNat_zero, Nat.gcd_zero_right]
        rw [Int.toNat_of_nonneg rx.1, ofW_wv hx]
      · left
        have c : (!(y1 == 0 && (y2 == 0 && true))) = true := by
          unfold wv at h0
          simp only [Bool.and_true, Bool.not_eq_true', Bool.and_eq_false_iff, beq_eq_false_iff_ne]
          simp only at h0
          omega
        rw [c, cond_true, ref_div hx hy (by omega)]
        have hm0 : 0 ≤ wv ⟨x1, x2⟩ % wv ⟨y1, y2⟩ := Int.emod_nonneg _ h0
        have hm1 : wv ⟨x1, x2⟩ % wv ⟨y1, y2⟩ < wv ⟨y1, y2⟩ := Int.emod_lt_of_pos _ (by omega)
        refine ⟨_, rfl, ⟨hy, ofW_ok hm0 (by omega), ?_⟩, ?_⟩
        · show Nat.gcd _ (wv (ofW _)).toNat = _
          rw [wv_ofW, ← hg, Int.toNat_emod rx.1 ry.1, Nat.gcd_comm, ← Nat.gcd_rec, Nat.gcd_comm]
        · show (wv (ofW _)).toNat < _
          rw [wv_ofW]
          omega)
  rw [hr, hQ]

theorem num_gcd (a b : Nat) : num_Gcd (a : Int) (b : Int) = some ((Nat.gcd a b : Nat) : Int) := by
  unfold num_Gcd
  have c : (decide ((a : Int) < 0) || decide ((b : Int) < 0)) = false := by
    rw [Bool.or_eq_false_iff, decide_eq_false_iff_not, decide_eq_false_iff_not]; omega
  rw [c, cond_false]
  unfold num_Gcd_l3
  obtain ⟨r, hr, hQ⟩ := loop_ind (f := fun s : Int × Int => num_Gcd_l3s s.1 s.2)
    (fun s => ∃ x y : Nat, s = ((x : Int), (y : Int)) ∧ Nat.gcd x y = Nat.gcd a b)
    (fun s => s.2.toNat) (fun r => r = ((Nat.gcd a b : Nat) : Int)) ((a : Int), (b : Int)) ⟨a, b, rfl, rfl⟩ (by
      rintro _ ⟨x, y, rfl, hg⟩
      simp only
      unfold num_Gcd_l3s
      by_cases h0 : y = 0
      · right
        subst h0
        refine ⟨_, rfl, ?_⟩
        rw [← hg, Nat.gcd_zero_right]
      · left
        have c : ((y : Int) != 0) = true := by rw [bne_iff_ne]; omega
        rw [c, cond_true, ck_pos (by rw [decide_eq_true_eq]; omega)]
        refine ⟨_, rfl, ⟨y, x % y, rfl, ?_⟩, ?_⟩
        · rw [← hg, Nat.gcd_comm, ← Nat.gcd_rec, Nat.gcd_comm]
        · show (((x % y : Nat) : Int)).toNat < (y : Int).toNat
          have := Nat.mod_lt x (show 0 < y by omega)
          omega)
  rw [hr, hQ]

theorem div64_small {x y : Int} (h0 : 0 ≤ x) (h1 : x < 18446744073709551616) (h2 : 0 < y) : math_bits_Div64 0 x y = some (x / y, x % y) := by
  unfold math_bits_Div64
  have c1 : (y == (0:Int)) = false := by rw [beq_eq_false_iff_ne]; omega
  have c2 : decide (y ≤ 0) = false := by rw [decide_eq_false_iff_not]; omega
  rw [c1, c2, cond_false, cond_false, ck_pos (by rw [decide_eq_true_eq]; omega), ck_pos (by rw [decide_eq_true_eq]; omega)]
  have e1 : Int.tdiv x y = x / y := Int.tdiv_eq_ediv_of_nonneg h0
  have e2 : Int.tmod x y = x % y := Int.tmod_eq_emod_of_nonneg h0
  have e3 : 0 ≤ x / y := Int.ediv_nonneg h0 (by omega)
  have e4 : x / y ≤ x := Int.ediv_le_self _ h0
  have e5 : wu64 (x / y) = x / y := by rw [wu64_eq]; omega
  rw [e1, e2, e5]
  rfl

theorem ref_of {n : Int} (h0 : 0 ≤ n) (h1 : n < 18446744073709551616) : okW (ref02_Of n) ∧ wv (ref02_Of n) = n := by
  unfold okW wv ref02_Of
  simp only
  omega

/-- A fraction of numbers that are not negative, in lowest terms. -/
theorem ref_make {d n : Nat} (hd : d < 9223372036854775808) (hn : n < 9223372036854775808) (h0 : 0 < n) :
    ref03_Make (d : Int) (n : Int) = some (⟨((d / Nat.gcd d n : Nat) : Int), ((n / Nat.gcd d n : Nat) : Int)⟩, true) := by
  have gpos : 0 < Nat.gcd d n := Nat.gcd_pos_of_pos_right _ h0
  have q1 : d / Nat.gcd d n ≤ d := Nat.div_le_self _ _
  have q2 : n / Nat.gcd d n ≤ n := Nat.div_le_self _ _
  have gle : Nat.gcd d n ≤ n := Nat.gcd_le_right _ h0
  unfold ref03_Make
  have c1 : ((n : Int) == 0) = false := by rw [beq_eq_false_iff_ne]; omega
  rw [c1, cond_false]
  simp only
  rw [abs_abs (by omega) (by omega), abs_abs (by omega) (by omega), if_neg (by omega), if_neg (by omega)]
  obtain ⟨o1, v1⟩ := ref_of (n := (d : Int)) (by omega) (by omega)
  obtain ⟨o2, v2⟩ := ref_of (n := (n : Int)) (by omega) (by omega)
  have c2 : ((!(decide ((d : Int) < 0) == decide ((n : Int) < 0))) && (d : Int) != 0) = false := by
    have a1 : decide ((d : Int) < 0) = false := by rw [decide_eq_false_iff_not]; omega
    have a2 : decide ((n : Int) < 0) = false := by rw [decide_eq_false_iff_not]; omega
    rw [a1, a2]; rfl
  rw [c2]
  unfold ref03_reduced
  rw [ref_gcd o1 o2, v1, v2, Int.toNat_natCast, Int.toNat_natCast]
  simp only [Option.bind_some]
  have og : okW (ofW ((Nat.gcd d n : Nat) : Int)) := ofW_ok (by omega) (by omega)
  rw [ref_div o1 og (by rw [wv_ofW]; omega), ref_div o2 og (by rw [wv_ofW]; omega), wv_ofW, v1, v2]
  simp only [Option.bind_some]
  have f1 : (d : Int) / ((Nat.gcd d n : Nat) : Int) = ((d / Nat.gcd d n : Nat) : Int) := by rw [Int.natCast_ediv]
  have f2 : (n : Int) / ((Nat.gcd d n : Nat) : Int) = ((n / Nat.gcd d n : Nat) : Int) := by rw [Int.natCast_ediv]
  rw [f1, f2]
  generalize d / Nat.gcd d n = x at *
  generalize n / Nat.gcd d n = y at *
  unfold ofW
  simp only [Bool.not_false, Bool.and_true, cond_true]
  have c3 : ((((((x : Int) / 18446744073709551616 != 0) || ((y : Int) / 18446744073709551616 != 0)) || decide ((y : Int) % 18446744073709551616 ≥ 9223372036854775808)) || decide ((x : Int) % 18446744073709551616 > 9223372036854775808)) || ((x : Int) % 18446744073709551616 == 9223372036854775808)) = false := by
    simp only [Bool.or_eq_false_iff, bne_eq_false_iff_eq, decide_eq_false_iff_not, beq_eq_false_iff_ne]
    omega
  rw [c3, cond_false]
  have w1 : w64 ((x : Int) % 18446744073709551616) = (x : Int) := by rw [w64_id] <;> omega
  have w2 : w64 ((y : Int) % 18446744073709551616) = (y : Int) := by rw [w64_id] <;> omega
  rw [w1, w2]
  rfl

end Go.Win
