/- Pu: chapter 27: reading and writing one number. -/
import Derived.Test.YtmipeaidieflmaaPuCode
import Derived.Test.YtmipeaidieflmaaPuHalves
import Derived.Test.YtmipeaidieflmaaWin
import Derived.Laws.BitsLemmas
set_option linter.unusedVariables false
set_option linter.unusedSimpArgs false
set_option linter.unnecessarySimpa false
set_option linter.unusedSectionVars false
namespace Go.Win
open Go.Vc Go.Dec

theorem and127_fin : ∀ n : Fin 256, iand .u8 (n.1 : Int) 127 = ((n.1 % 128 : Nat) : Int) := by decide +kernel
theorem or128_fin : ∀ n : Fin 256, ior .u8 (n.1 : Int) 128 = ((128 + n.1 % 128 : Nat) : Int) := by decide +kernel
theorem and127 {x : Nat} (h : x ≤ 255) : iand .u8 (x : Int) 127 = ((x % 128 : Nat) : Int) := and127_fin ⟨x, by omega⟩
theorem or128 {x : Nat} (h : x ≤ 255) : ior .u8 (x : Int) 128 = ((128 + x % 128 : Nat) : Int) := or128_fin ⟨x, by omega⟩

theorem or_comm64 (a b : Int) : ior .u64 a b = ior .u64 b a := by
  show IntKind.u64.wrap _ = IntKind.u64.wrap _
  rw [BitVec.or_comm]

theorem and_mask {v m : Nat} (hv : v < 18446744073709551616) (hm : m ≤ 63) : iand .u64 (v : Int) ((2 ^ m - 1 : Nat) : Int) = ((v % 2 ^ m : Nat) : Int) := by
  show IntKind.u64.wrap _ = _
  have hbits : IntKind.u64.bits = 64 := rfl
  have hp : (2 : Nat) ^ m ≤ 2 ^ 63 := Nat.pow_le_pow_right (by decide) hm
  rw [hbits, IntKind.wrap_u64, BitVec.toNat_and, BitVec.toNat_ofInt, BitVec.toNat_ofInt]
  have e1 : ((((v : Int)) % ((2 ^ 64 : Nat) : Int)).toNat) = v := by omega
  have e2 : (((((2 ^ m - 1 : Nat) : Int)) % ((2 ^ 64 : Nat) : Int)).toNat) = 2 ^ m - 1 := by omega
  rw [e1, e2, Nat.and_two_pow_sub_one_eq_mod]
  have := Nat.mod_lt v (Nat.two_pow_pos m)
  omega

theorem and1 {v : Nat} (hv : v < 18446744073709551616) : iand .u64 (v : Int) 1 = ((v % 2 : Nat) : Int) := and_mask (m := 1) hv (by decide)
theorem and127' {v : Nat} (hv : v < 18446744073709551616) : iand .u64 (v : Int) 127 = ((v % 128 : Nat) : Int) := and_mask (m := 7) hv (by decide)

theorem not64 {v : Nat} (hv : v < 18446744073709551616) : inot .u64 (v : Int) = ((18446744073709551615 - v : Nat) : Int) := by
  show IntKind.u64.wrap _ = _
  have hbits : IntKind.u64.bits = 64 := rfl
  rw [hbits, IntKind.wrap_u64]
  have e : BitVec.ofInt 64 (if IntKind.u64.signed then -1 else IntKind.u64.max) = BitVec.allOnes 64 := by decide
  rw [e, BitVec.allOnes_xor, BitVec.toNat_not, BitVec.toNat_ofInt]
  omega

theorem noti {v : Nat} (hv : v < 9223372036854775808) : inot .i64 (v : Int) = -(v : Int) - 1 := by
  show IntKind.i64.wrap _ = _
  have hbits : IntKind.i64.bits = 64 := rfl
  rw [hbits, IntKind.wrap_i64]
  have e : BitVec.ofInt 64 (if IntKind.i64.signed then -1 else IntKind.i64.max) = BitVec.allOnes 64 := by decide
  rw [e, BitVec.allOnes_xor, BitVec.toNat_not, BitVec.toNat_ofInt]
  omega

theorem pow128 (i : Nat) : (128 : Nat) ^ i = 2 ^ (7 * i) := by rw [Nat.pow_mul]

/-- What a reading function answers. -/
def rdR (a : Nat) : Option (Nat × Nat) → Int × Int × Bool
  | none => (0, 0, false)
  | some p => (unzz p.1, ((a + p.2 : Nat) : Int), true)

theorem put7 {u x i : Nat} (hu : u < 128 ^ i) (hi : i ≤ 9) (hx : x ≤ 255) (h9 : i = 9 → x ≤ 1) :
    ior .u64 (u : Int) (ishl .u64 (wu64 (iand .u8 (x : Int) 127)) (wu64 (w64 (7 * (i : Int))))) = ((u + x % 128 * 128 ^ i : Nat) : Int) ∧ u + x % 128 * 128 ^ i < 18446744073709551616 ∧ (i ≤ 8 → u + x % 128 * 128 ^ i < 128 ^ (i + 1)) := by
  have b0 : u + x % 128 * 128 ^ i < 128 ^ (i + 1) := by
    have h1 : x % 128 * 128 ^ i ≤ 127 * 128 ^ i := Nat.mul_le_mul_right _ (by omega)
    rw [Nat.pow_succ]
    omega
  have b1 : u + x % 128 * 128 ^ i < 18446744073709551616 := by
    by_cases h : i ≤ 8
    · have h1 := pow128_le (show i + 1 ≤ 9 by omega)
      have : (128 : Nat) ^ 9 = 9223372036854775808 := by decide
      omega
    · have hi9 : i = 9 := by omega
      subst hi9
      have : (128 : Nat) ^ 9 = 9223372036854775808 := by decide
      have hx1 := h9 rfl
      rw [show x % 128 = x by omega]
      clear b0
      rw [this] at hu ⊢
      omega
  refine ⟨?_, b1, fun _ => b0⟩
  have e1 : wu64 (w64 (7 * (i : Int))) = ((7 * i : Nat) : Int) := by rw [wu64_eq, w64_id] <;> omega
  have e2 : wu64 (((x % 128 : Nat) : Int)) = ((x % 128 : Nat) : Int) := by rw [wu64_eq]; omega
  have e3 : ishl .u64 ((x % 128 : Nat) : Int) ((7 * i : Nat) : Int) = ((x % 128 * 2 ^ (7 * i) : Nat) : Int) := by
    rw [ishl_eq _ (by omega)]
    have : (((x % 128 : Nat) : Int)) * 2 ^ (7 * i) = ((x % 128 * 2 ^ (7 * i) : Nat) : Int) := by simp
    rw [this]
    rw [← pow128]
    omega
  rw [e1, and127 hx, e2, e3, or_comm64, ior_disj (by rw [← pow128]; exact hu) (by rw [← pow128]; omega), ← pow128]
  congr 1
  omega

theorem read_loop {l : List Int} (hb : byt l) (hl : l.length ≤ 1099511627776) {a : Nat} (ha : a ≤ l.length) : ∀ (k i u : Nat), i + k = 10 → u < 128 ^ i →
    tape_Read_l3 l a u i = some (rdR a (rdN i u (l.drop (a + i)))) ∧ ref27_Read_l3 l a u i = some (rdR a (rdN i u (l.drop (a + i)))) := by
  intro k
  induction k with
  | zero =>
    intro i u hi hu
    have hi : i = 10 := by omega
    subst hi
    have e : rdN 10 u (l.drop (a + 10)) = none := by
      cases h : l.drop (a + 10) with
      | nil => rfl
      | cons x m => simp [rdN]
    rw [e]
    constructor
    · exact loop_inr rfl
    · exact loop_inr rfl
  | succ k ih =>
    intro i u hi hu
    by_cases hlt : a + i < l.length
    · have hx := hb l[a + i] (List.getElem_mem hlt)
      obtain ⟨x, ex⟩ := Int.eq_ofNat_of_zero_le hx.1
      have hx255 : x ≤ 255 := by omega
      have hd : l.drop (a + i) = (x : Int) :: l.drop (a + (i + 1)) := by rw [List.drop_eq_getElem_cons hlt, ex]; rfl
      have hidx : idx l (w64 ((a : Int) + (i : Int))) = some (x : Int) := by
        rw [w64_id (by omega) (by omega), show ((a : Int) + (i : Int)) = ((a + i : Nat) : Int) by omega, idx_get hlt, ex]
      have hc : (decide ((i : Int) < 10) && decide (w64 ((a : Int) + (i : Int)) < (l.length : Int))) = true := by
        rw [w64_id (by omega) (by omega), Bool.and_eq_true, decide_eq_true_eq, decide_eq_true_eq]; omega
      have hck : decide (0 ≤ wu64 (w64 (7 * (i : Int)))) = true := by rw [decide_eq_true_eq, wu64_eq]; omega
      have hs : w64 ((i : Int) + 1) = ((i + 1 : Nat) : Int) := by rw [w64_id] <;> omega
      rw [hd]
      unfold tape_Read_l3 ref27_Read_l3
      by_cases h9 : i = 9 ∧ 1 < x
      · have e : rdN i u ((x : Int) :: l.drop (a + (i + 1))) = none := by
          simp only [rdN]
          rw [if_neg (by omega), if_pos (by omega)]
        rw [e]
        have h9' : (((i : Int) == 9) && decide ((x : Int) > 1)) = true := by simp; omega
        constructor
        · refine loop_inr ?_
          unfold tape_Read_l3s
          rw [hc, cond_true, hidx, Option.bind_some, h9', cond_true]; rfl
        · refine loop_inr ?_
          unfold ref27_Read_l3s
          rw [hc, cond_true, hidx, Option.bind_some, h9', cond_true]; rfl
      · have h9' : (((i : Int) == 9) && decide ((x : Int) > 1)) = false := by simp; omega
        obtain ⟨p1, p2, p3⟩ := put7 (x := x) hu (by omega) hx255 (by omega)
        by_cases h128 : 128 ≤ x
        · have e : rdN i u ((x : Int) :: l.drop (a + (i + 1))) = rdN (i + 1) (u + x % 128 * 128 ^ i) (l.drop (a + (i + 1))) := by
            simp only [rdN]
            rw [if_neg (by omega), if_neg (by omega), if_pos (by omega), Int.toNat_natCast]
          obtain ⟨r1, r2⟩ := ih (i + 1) _ (by omega) (p3 (by omega))
          rw [e]
          constructor
          · rw [← r1]
            refine loop_inl ?_
            unfold tape_Read_l3s
            simp only []
            rw [hc, cond_true, hidx, Option.bind_some, h9', cond_false, ck_pos hck, decide_eq_true (by omega), cond_true, p1, hs]
          · rw [← r2]
            refine loop_inl ?_
            unfold ref27_Read_l3s
            simp only []
            rw [hc, cond_true, hidx, Option.bind_some, h9', cond_false, ck_pos hck, decide_eq_true (by omega), cond_true, p1, hs]
        · by_cases h0 : x = 0 ∧ 0 < i
          · have e : rdN i u ((x : Int) :: l.drop (a + (i + 1))) = none := by
              simp only [rdN]
              rw [if_neg (by omega), if_neg (by omega), if_neg (by omega), if_pos (by omega)]
            have h0' : (((x : Int) == 0) && decide ((i : Int) > 0)) = true := by simp; omega
            rw [e]
            constructor
            · refine loop_inr ?_
              unfold tape_Read_l3s
              simp only []
              rw [hc, cond_true, hidx, Option.bind_some, h9', cond_false, ck_pos hck, decide_eq_false (by omega), cond_false, h0', cond_true]; rfl
            · refine loop_inr ?_
              unfold ref27_Read_l3s
              simp only []
              rw [hc, cond_true, hidx, Option.bind_some, h9', cond_false, ck_pos hck, decide_eq_false (by omega), cond_false, h0', cond_true]; rfl
          · have e : rdN i u ((x : Int) :: l.drop (a + (i + 1))) = some (u + x % 128 * 128 ^ i, i + 1) := by
              simp only [rdN]
              rw [if_neg (by omega), if_neg (by omega), if_neg (by omega), if_neg (by omega), Int.toNat_natCast, show x % 128 = x by omega]
            have h0' : (((x : Int) == 0) && decide ((i : Int) > 0)) = false := by simp; omega
            rw [e]
            generalize hT : u + x % 128 * 128 ^ i = T at p1 p2 ⊢
            have q1 : iand .u64 (T : Int) 1 = ((T % 2 : Nat) : Int) := and1 p2
            have q2 : w64 (ishr .u64 (T : Int) 1) = ((T / 2 : Nat) : Int) := by
              rw [show (1 : Int) = ((1 : Nat) : Int) from rfl, ishr_eq _ (by omega), w64_id] <;> omega
            have q3 : w64 (w64 ((a : Int) + (i : Int)) + 1) = ((a + (i + 1) : Nat) : Int) := by
              rw [w64_id (n := (a : Int) + (i : Int)) (by omega) (by omega), w64_id] <;> omega
            have q4 : inot .i64 ((T / 2 : Nat) : Int) = -((T / 2 : Nat) : Int) - 1 := noti (by omega)
            have q5 : w64 (IntKind.i64.wrap (0 - ((T / 2 : Nat) : Int)) - 1) = -((T / 2 : Nat) : Int) - 1 := by
              rw [show IntKind.i64.wrap (0 - ((T / 2 : Nat) : Int)) = w64 (0 - ((T / 2 : Nat) : Int)) from rfl, w64_id (n := 0 - ((T / 2 : Nat) : Int)) (by omega) (by omega), w64_id] <;> omega
            constructor
            · refine loop_inr ?_
              unfold tape_Read_l3s
              simp only []
              rw [hc, cond_true, hidx, Option.bind_some, h9', cond_false, ck_pos hck, decide_eq_false (by omega), cond_false, h0', cond_false, p1, q1, q2, q3, q4]
              unfold rdR unzz
              by_cases hm : T % 2 = 0
              · rw [hm]; simp [hm]
              · have hm1 : T % 2 = 1 := by omega
                simp [hm1]
            · refine loop_inr ?_
              unfold ref27_Read_l3s
              simp only []
              rw [hc, cond_true, hidx, Option.bind_some, h9', cond_false, ck_pos hck, decide_eq_false (by omega), cond_false, h0', cond_false, p1, q1, q2, q3, q5]
              unfold rdR unzz
              by_cases hm : T % 2 = 0
              · rw [hm]; simp [hm]
              · have hm1 : T % 2 = 1 := by omega
                simp [hm1]
    · have hc : (decide ((i : Int) < 10) && decide (w64 ((a : Int) + (i : Int)) < (l.length : Int))) = false := by
        rw [w64_id (by omega) (by omega), Bool.and_eq_false_iff, decide_eq_false_iff_not, decide_eq_false_iff_not]; omega
      have hd : l.drop (a + i) = [] := List.drop_eq_nil_of_le (by omega)
      rw [hd]
      constructor
      · refine loop_inr ?_
        unfold tape_Read_l3s
        simp only []
        rw [hc, cond_false]; rfl
      · refine loop_inr ?_
        unfold ref27_Read_l3s
        simp only []
        rw [hc, cond_false]; rfl

/-- What is answered for the place a of l. -/
def rdA (l : List Int) (a : Nat) : Int × Int × Bool := match rd (l.drop a) with
  | none => (0, 0, false)
  | some p => (p.1, ((a + p.2 : Nat) : Int), true)

theorem rdA_eq (l : List Int) (a : Nat) : rdR a (rdN 0 0 (l.drop a)) = rdA l a := by
  unfold rdR rdA rd
  cases rdN 0 0 (l.drop a) <;> rfl

theorem tape_read {l : List Int} (hb : byt l) (hl : l.length ≤ 1099511627776) {a : Nat} (ha : a ≤ l.length) : tape_Read l a = some (rdA l a) := by
  unfold tape_Read
  rw [decide_eq_false (by omega), decide_eq_false (by omega), Bool.or_self, cond_false, ← rdA_eq]
  exact (read_loop hb hl ha 10 0 0 (by omega) (by decide)).1

theorem ref_read27 {l : List Int} (hb : byt l) (hl : l.length ≤ 1099511627776) {a : Nat} (ha : a ≤ l.length) : ref27_Read l a = some (rdA l a) := by
  unfold ref27_Read
  rw [decide_eq_false (by omega), decide_eq_false (by omega), Bool.or_self, cond_false, ← rdA_eq]
  exact (read_loop hb hl ha 10 0 0 (by omega) (by decide)).2

theorem u8_wrap (n : Int) : IntKind.u8.wrap n = n % 256 := IntKind.wrap_u8 n

theorem cb_ten {u : Nat} : ∀ k, 1 ≤ k → u < 128 ^ k → (cb u).length ≤ k := by
  intro k
  induction k generalizing u with
  | zero => intro h; omega
  | succ k ih =>
    intro _ h
    by_cases h1 : u < 128
    · rw [cb_lt h1]; simp
    · rw [cb_ge (by omega), List.length_cons]
      have hk : 1 ≤ k := by
        rcases Nat.eq_zero_or_pos k with h0 | h0
        · subst h0; simp at h; omega
        · exact h0
      have := ih (u := u / 128) hk (by rw [Nat.pow_succ] at h; omega)
      omega

theorem code_ten {n : Int} (h : wfI .i64 n) : (code n).length ≤ 10 := by
  refine cb_ten 10 (by decide) ?_
  have := zz_lt h
  have e : (128 : Nat) ^ 10 = 1180591620717411303424 := by decide
  omega

theorem append_loop : ∀ (u : Nat) (v : List Int), u < 18446744073709551616 → v.length + (cb u).length ≤ 1099511627776 →
    tape_Append_i3_l3 v u = some (v ++ cb u) ∧ ref27_Append_l3 u v = some (v ++ cb u) := by
  intro u
  induction u using Nat.strongRecOn with
  | _ u ih =>
    intro v hu hl
    have hcl := cb_len u
    by_cases h : u < 128
    · have e1 : IntKind.u8.wrap (u : Int) = (u : Int) := by rw [u8_wrap]; omega
      rw [cb_lt h]
      unfold tape_Append_i3_l3 ref27_Append_l3
      constructor
      · refine loop_inr ?_
        unfold tape_Append_i3_l3s
        simp only []
        rw [decide_eq_false (by omega), cond_false, ck_pos (by rw [decide_eq_true_eq, List.length_singleton]; omega), e1]; rfl
      · refine loop_inr ?_
        unfold ref27_Append_l3s
        simp only []
        rw [decide_eq_false (by omega), cond_false, ck_pos (by rw [decide_eq_true_eq, List.length_singleton]; omega), e1]; rfl
    · have e1 : ior .u8 (IntKind.u8.wrap (u : Int)) 128 = ((128 + u % 128 : Nat) : Int) := by
        rw [u8_wrap, show (u : Int) % 256 = ((u % 256 : Nat) : Int) by omega, or128 (by omega)]
        congr 2
        omega
      have e2 : ior .u8 (IntKind.u8.wrap (iand .u64 (u : Int) 127)) 128 = ((128 + u % 128 : Nat) : Int) := by
        rw [and127' hu, u8_wrap, show ((u % 128 : Nat) : Int) % 256 = ((u % 128 : Nat) : Int) by omega, or128 (by omega)]
        congr 2
        omega
      have e3 : ishr .u64 (u : Int) 7 = ((u / 128 : Nat) : Int) := by
        rw [show (7 : Int) = ((7 : Nat) : Int) from rfl, ishr_eq _ (by omega)]
        omega
      have hc : cb u = ((128 + u % 128 : Nat) : Int) :: cb (u / 128) := cb_ge (by omega)
      rw [hc, List.length_cons] at hl
      obtain ⟨r1, r2⟩ := ih (u / 128) (by omega) (v ++ [((128 + u % 128 : Nat) : Int)]) (by omega) (by rw [List.length_append, List.length_singleton]; omega)
      have e4 : v ++ cb u = (v ++ [((128 + u % 128 : Nat) : Int)]) ++ cb (u / 128) := by rw [hc]; simp
      rw [e4]
      constructor
      · rw [← r1]
        refine loop_inl ?_
        unfold tape_Append_i3_l3s
        simp only []
        rw [decide_eq_true (by omega), cond_true, e1, ck_pos (by rw [decide_eq_true_eq, List.length_singleton]; omega), e3]
      · rw [← r2]
        refine loop_inl ?_
        unfold ref27_Append_l3s
        simp only []
        rw [decide_eq_true (by omega), cond_true, e2, ck_pos (by rw [decide_eq_true_eq, List.length_singleton]; omega), e3]

theorem wf_i64 {n : Int} : wfI .i64 n ↔ -9223372036854775808 ≤ n ∧ n ≤ 9223372036854775807 := by
  simp [wfI, Lit.wf, IntKind.min, IntKind.max, IntKind.signed, IntKind.bits]

theorem zig_neg {n : Int} (h : wfI .i64 n) (hn : n < 0) : inot .u64 (ishl .u64 (wu64 n) 1) = (zz n : Int) := by
  have := wf_i64.1 h
  have e : ishl .u64 (wu64 n) 1 = (((2 * n) % 18446744073709551616).toNat : Int) := by
    rw [show (1 : Int) = ((1 : Nat) : Int) from rfl, ishl_eq _ (by omega), wu64_eq]
    omega
  rw [e, not64 (by omega)]
  unfold zz
  rw [if_neg (by omega)]
  omega

theorem zig_pos {n : Int} (h : wfI .i64 n) (hn : 0 ≤ n) : ishl .u64 (wu64 n) 1 = (zz n : Int) := by
  have := wf_i64.1 h
  rw [show (1 : Int) = ((1 : Nat) : Int) from rfl, ishl_eq _ (by omega), wu64_eq]
  unfold zz
  rw [if_pos hn]
  omega

theorem tape_append {v : List Int} {n : Int} (h : wfI .i64 n) (hl : v.length + (code n).length ≤ 1099511627776) : tape_Append_i3 v n = some (v ++ code n) := by
  have hz := zz_lt h
  unfold tape_Append_i3 tape_Append_i3_j1
  by_cases hn : n < 0
  · rw [decide_eq_true hn, cond_true, zig_neg h hn]
    exact (append_loop _ v (by omega) hl).1
  · rw [decide_eq_false hn, cond_false, zig_pos h (by omega)]
    exact (append_loop _ v (by omega) hl).1

end Go.Win

