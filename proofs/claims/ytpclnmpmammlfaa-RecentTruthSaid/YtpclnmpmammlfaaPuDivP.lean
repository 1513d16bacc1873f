/- Pu: division of wide numbers, as the program does it. -/
import Derived.Test.YtpclnmpmammlfaaPuDiv
namespace Go.Win
open Go.Vc Go.Dec

theorem wide_bits_lt {a : api_Wide} (ha : okW a) : ∃ n : Nat, n ≤ 128 ∧ wide_Bits a = some (n : Int) ∧ wv a < 2 ^ n := by
  unfold okW at ha
  have p64 : (2 : Int) ^ 64 = 18446744073709551616 := by decide
  unfold wide_Bits
  by_cases hh : a.Hi = 0
  · have c : (a.Hi != (0:Int)) = false := by rw [bne_eq_false_iff_eq]; exact hh
    rw [c, cond_false]
    by_cases hl : a.Lo = 0
    · refine ⟨0, by omega, ?_, ?_⟩
      · rw [hl]; rfl
      · unfold wv; rw [hh, hl]; decide
    · obtain ⟨b, b1, b2, b3, b4, b5⟩ := bitLen_bounds (x := a.Lo) (by omega) (by omega)
      refine ⟨b, by omega, ?_, ?_⟩
      · rw [b1]; rfl
      · unfold wv; rw [hh]; omega
  · have c : (a.Hi != (0:Int)) = true := by rw [bne_iff_ne]; exact hh
    rw [c, cond_true]
    obtain ⟨b, b1, b2, b3, b4, b5⟩ := bitLen_bounds (x := a.Hi) (by omega) (by omega)
    refine ⟨64 + b, by omega, ?_, ?_⟩
    · rw [b1]
      simp only [Option.bind_some]
      rw [w64_id (by omega) (by omega)]
      rfl
    · unfold wv
      rw [Int.pow_add, p64]
      have : a.Hi + 1 ≤ 2 ^ b := by omega
      have := Int.mul_le_mul_of_nonneg_left this (show (0 : Int) ≤ 18446744073709551616 by decide)
      omega

theorem double_parts {a : api_Wide} (ha : okW a) {b : Nat} (hb : b < 2) :
    ior .u64 (ishl .u64 a.Hi 1) (ishr .u64 a.Lo 63) = (ofW ((wv a * 2 + b) % 340282366920938463463374607431768211456)).Hi ∧
    ior .u64 (ishl .u64 a.Lo 1) (b : Int) = (ofW ((wv a * 2 + b) % 340282366920938463463374607431768211456)).Lo ∧
    ishr .u64 a.Hi 63 = wv a / 170141183460469231731687303715884105728 := by
  have h := ref_double_bit ha hb
  unfold ref02_double at h
  have h1 := congrArg (fun x => x.1.Hi) h
  have h2 := congrArg (fun x => x.1.Lo) h
  have h3 := congrArg (fun x => x.2) h
  exact ⟨h1, h2, h3⟩

theorem shl_lo {a : api_Wide} (ha : okW a) : ishl .u64 a.Lo 1 = (ofW ((wv a * 2) % 340282366920938463463374607431768211456)).Lo := by
  have := ishl_eq a.Lo (k := 1) (by decide)
  have e : ishl .u64 a.Lo 1 = (a.Lo * 2) % 18446744073709551616 := by simpa using this
  unfold okW at ha
  rw [e]
  unfold ofW wv
  simp only
  omega

theorem wide_div {a b : api_Wide} (ha : okW a) (hb : okW b) (h0 : 0 < wv b) : wide_Div a b = some (ofW (wv a / wv b), ofW (wv a % wv b), true) := by
  have ra := wv_range ha
  have rb := wv_range hb
  obtain ⟨n0, hn0, hbits, hAn⟩ := wide_bits_lt ha
  have hne : wide_zero b = false := by
    unfold wv at h0
    unfold okW at hb
    unfold wide_zero
    simp only [Bool.and_eq_false_iff, beq_eq_false_iff_ne]
    omega
  unfold wide_Div
  rw [hne, hbits]
  simp only [cond_false, Option.bind_some]
  unfold wide_Div_l3
  generalize hA : wv a = A at *
  generalize hB : wv b = B at *
  have e0 : w64 ((n0 : Int) - 1) = (n0 : Int) - 1 := by rw [w64_id] <;> omega
  rw [e0]
  obtain ⟨r, hr, hQ⟩ := loop_ind (f := fun s : Int × Int × Int × Int × Int => wide_Div_l3s a b s.1 s.2.1 s.2.2.1 s.2.2.2.1 s.2.2.2.2)
    (fun s => ∃ k : Nat, k ≤ n0 ∧ s = ((k : Int) - 1, (ofW (A / 2 ^ k / B)).Hi, (ofW (A / 2 ^ k / B)).Lo, (ofW (A / 2 ^ k % B)).Hi, (ofW (A / 2 ^ k % B)).Lo))
    (fun s => (s.1 + 1).toNat) (fun r => r = (ofW (A / B), ofW (A % B), true)) ((n0 : Int) - 1, 0, 0, 0, 0) ⟨n0, Nat.le_refl _, by
      have : A / 2 ^ n0 = 0 := Int.ediv_eq_zero_of_lt ra.1 hAn
      rw [this]
      simp [ofW]⟩ (by
      rintro _ ⟨k, hk, rfl⟩
      simp only
      unfold wide_Div_l3s
      cases k with
      | zero =>
        right
        rw [decide_eq_false (by omega : ¬ (((0 : Nat) : Int) - 1 ≥ 0)), cond_false]
        refine ⟨_, rfl, ?_⟩
        simp only [Int.pow_zero, Int.ediv_one]
      | succ i =>
        left
        have e0 : (((i + 1 : Nat) : Int) - 1) = (i : Int) := by omega
        have hbit : wide_bit a (i : Int) = some ((wv a / 2 ^ i) % 2) := ref_bit ha (by omega)
        rw [e0, decide_eq_true (by omega : (i : Int) ≥ 0), cond_true, hbit, hA]
        simp only [Option.bind_some]
        have hA2 : A / 2 ^ (i + 1) = A / 2 ^ i / 2 := by
          rw [Int.pow_succ, Int.ediv_ediv_of_nonneg (by have := pow_pos' i; omega)]
        have hAi0 : 0 ≤ A / 2 ^ i := Int.ediv_nonneg ra.1 (by have := pow_pos' i; omega)
        have hAi1 : A / 2 ^ i ≤ A := Int.ediv_le_self _ ra.1
        rw [hA2]
        generalize hNd : A / 2 ^ i = N at *
        obtain ⟨β, hβ⟩ := Int.eq_ofNat_of_zero_le (show 0 ≤ N % 2 by omega)
        have hβ2 : β < 2 := by omega
        have hR0 : 0 ≤ N / 2 % B := Int.emod_nonneg _ (by omega)
        have hR1 : N / 2 % B < B := Int.emod_lt_of_pos _ h0
        have hQ0 : 0 ≤ N / 2 / B := Int.ediv_nonneg (by omega) (by omega)
        have hQ1 : N / 2 / B ≤ N / 2 := Int.ediv_le_self _ (by omega)
        have hQR := Int.mul_ediv_add_emod (N / 2) B
        generalize hRR : N / 2 % B = R at *
        generalize hQQ : N / 2 / B = Q at *
        have hN : N = (2 * Q) * B + (2 * R + β) := by
          have : B * Q = Q * B := Int.mul_comm _ _
          have : 2 * Q * B = 2 * (Q * B) := Int.mul_assoc _ _ _
          omega
        have oR : okW (ofW R) := ofW_ok hR0 (by omega)
        have oQ : okW (ofW Q) := ofW_ok hQ0 (by omega)
        obtain ⟨d1, d2, d3⟩ := double_parts oR hβ2
        rw [wv_ofW] at d1 d2 d3
        rw [hβ, d1, d2, d3]
        have hX0 : 0 ≤ (R * 2 + β) % 340282366920938463463374607431768211456 := by omega
        have hX1 : (R * 2 + β) % 340282366920938463463374607431768211456 < 340282366920938463463374607431768211456 := by omega
        have oX := ofW_ok hX0 hX1
        have hc : wide_Compare ⟨(ofW ((R * 2 + β) % 340282366920938463463374607431768211456)).Hi, (ofW ((R * 2 + β) % 340282366920938463463374607431768211456)).Lo⟩ b = if (R * 2 + β) % 340282366920938463463374607431768211456 < B then -1 else if (R * 2 + β) % 340282366920938463463374607431768211456 = B then 0 else 1 := by
          have := wide_compare oX hb
          rw [wv_ofW, hB] at this
          exact this
        simp only [hc]
        have ew : w64 ((i : Int) - 1) = (i : Int) - 1 := by rw [w64_id] <;> omega
        by_cases hge : B ≤ 2 * R + β
        · have c1 : ((R / 170141183460469231731687303715884105728 == 1) || decide ((if (R * 2 + β) % 340282366920938463463374607431768211456 < B then (-1:Int) else if (R * 2 + β) % 340282366920938463463374607431768211456 = B then 0 else 1) ≥ 0)) = true := by
            rw [Bool.or_eq_true, beq_iff_eq, decide_eq_true_eq]
            by_cases ho : R / 170141183460469231731687303715884105728 = 1
            · exact .inl ho
            · right
              rw [if_neg (by omega)]
              split <;> omega
          rw [c1, cond_true]
          have dm := divmod_unique (a := N) (b := B) (q := 2 * Q + 1) (r := 2 * R + β - B) (by rw [Int.add_mul, hN]; omega) (by omega) (by omega)
          unfold okW at oX hb
          unfold wv at hB
          rw [sub64 _ _ _ (by omega) (by omega) (by omega) (by omega) (by omega)]
          simp only [Option.bind_some]
          have hbw : (if (ofW ((R * 2 + β) % 340282366920938463463374607431768211456)).Lo < b.Lo + 0 then (1:Int) else 0) ≤ 1 ∧ 0 ≤ (if (ofW ((R * 2 + β) % 340282366920938463463374607431768211456)).Lo < b.Lo + 0 then (1:Int) else 0) := by split <;> omega
          rw [sub64 _ _ _ (by omega) (by omega) (by omega) (by omega) (by omega)]
          simp only [Option.bind_some]
          obtain ⟨q1, q2, _⟩ := double_parts oQ (b := 1) (by omega)
          rw [wv_ofW] at q1 q2
          change _ = (ofW ((Q * 2 + 1) % 340282366920938463463374607431768211456)).Hi at q1
          change ior .u64 (ishl .u64 (ofW Q).Lo 1) 1 = (ofW ((Q * 2 + 1) % 340282366920938463463374607431768211456)).Lo at q2
          have hQ2 : 2 * Q + 1 ≤ N := by
            have := Int.ediv_le_self B (show 0 ≤ N by omega)
            omega
          rw [q1, q2, ew]
          refine ⟨_, rfl, ⟨i, by omega, ?_⟩, by show ((i : Int) - 1 + 1).toNat < ((i : Int) + 1).toNat; omega⟩
          rw [hNd, dm.1, dm.2]
          have : (Q * 2 + 1) % 340282366920938463463374607431768211456 = 2 * Q + 1 := by omega
          rw [this]
          unfold ofW at hbw ⊢
          simp only at hbw ⊢
          congr 3
          split
          · congr 1 <;> omega
          · congr 1 <;> omega
        · have hX : (R * 2 + β) % 340282366920938463463374607431768211456 = 2 * R + β := by omega
          have c1 : ((R / 170141183460469231731687303715884105728 == 1) || decide ((if (R * 2 + β) % 340282366920938463463374607431768211456 < B then (-1:Int) else if (R * 2 + β) % 340282366920938463463374607431768211456 = B then 0 else 1) ≥ 0)) = false := by
            rw [Bool.or_eq_false_iff, beq_eq_false_iff_ne, decide_eq_false_iff_not]
            refine ⟨by omega, ?_⟩
            rw [if_pos (by omega)]
            omega
          rw [c1, cond_false]
          have dm := divmod_unique (a := N) (b := B) (q := 2 * Q) (r := 2 * R + β) hN (by omega) (by omega)
          obtain ⟨q1, _, _⟩ := double_parts oQ (b := 0) (by omega)
          have q2 := shl_lo oQ
          rw [wv_ofW] at q1 q2
          change _ = (ofW ((Q * 2 + 0) % 340282366920938463463374607431768211456)).Hi at q1
          rw [Int.add_zero] at q1
          rw [q1, q2, ew]
          refine ⟨_, rfl, ⟨i, by omega, ?_⟩, by show ((i : Int) - 1 + 1).toNat < ((i : Int) + 1).toNat; omega⟩
          rw [hNd, dm.1, dm.2, hX]
          have : (Q * 2) % 340282366920938463463374607431768211456 = 2 * Q := by omega
          rw [this])
  rw [hr, hQ]

end Go.Win
