/- Pu: chapter 08: sums and squares. -/
import Derived.Test.YtpclnmpmammlfaaPuWide
import Derived.Test.YtpclnmpmammlfaaPu09
namespace Go.Win
open Go.Vc Go.Dec

/-! ### Products -/

theorem andLow {x : Int} (h0 : 0 ≤ x) (h1 : x < 18446744073709551616) : ((BitVec.ofInt IntKind.u64.bits x &&& BitVec.ofInt IntKind.u64.bits 4294967295).toNat : Int) = x % 4294967296 := by
  obtain ⟨n, rfl⟩ := Int.eq_ofNat_of_zero_le h0
  have e : (BitVec.ofInt IntKind.u64.bits (n : Int) &&& BitVec.ofInt IntKind.u64.bits 4294967295).toNat = n % 4294967296 := by
    have hb : IntKind.u64.bits = 64 := rfl
    rw [hb, BitVec.toNat_and, BitVec.toNat_ofInt, BitVec.toNat_ofInt]
    have h2 : (((n : Int) % ((2 ^ 64 : Nat) : Int)).toNat) = n := by omega
    have h3 : ((4294967295 : Int) % ((2 ^ 64 : Nat) : Int)).toNat = 2 ^ 32 - 1 := by decide
    rw [h2, h3, Nat.and_two_pow_sub_one_eq_mod]
  rw [e]
  omega

theorem iand32 {x : Int} (h0 : 0 ≤ x) (h1 : x < 18446744073709551616) : iand .u64 x 4294967295 = x % 4294967296 := by
  show IntKind.u64.wrap _ = _
  rw [andLow h0 h1, IntKind.wrap_u64]; omega

theorem iand63 {x : Int} (h0 : 0 ≤ x) (h1 : x < 18446744073709551616) : iand .u64 x 9223372036854775807 = x % 9223372036854775808 := by
  show IntKind.u64.wrap _ = _
  obtain ⟨n, rfl⟩ := Int.eq_ofNat_of_zero_le h0
  have e : (BitVec.ofInt IntKind.u64.bits (n : Int) &&& BitVec.ofInt IntKind.u64.bits 9223372036854775807).toNat = n % 9223372036854775808 := by
    have hb : IntKind.u64.bits = 64 := rfl
    rw [hb, BitVec.toNat_and, BitVec.toNat_ofInt, BitVec.toNat_ofInt]
    have h2 : (((n : Int) % ((2 ^ 64 : Nat) : Int)).toNat) = n := by omega
    have h3 : ((9223372036854775807 : Int) % ((2 ^ 64 : Nat) : Int)).toNat = 2 ^ 63 - 1 := by decide
    rw [h2, h3, Nat.and_two_pow_sub_one_eq_mod]
  rw [e, IntKind.wrap_u64]; omega

theorem ishr32 (x : Int) : ishr .u64 x 32 = x / 4294967296 := by
  show x.fdiv (2 ^ (min (32 : Int).toNat IntKind.u64.bits)) = _
  have : (2 : Int) ^ (min (32 : Int).toNat IntKind.u64.bits) = 4294967296 := by decide
  rw [this, Int.fdiv_eq_ediv_of_nonneg _ (by decide)]

theorem four (a b c d : Int) : (a * 4294967296 + b) * (c * 4294967296 + d) = (a * c) * 18446744073709551616 + (a * d + b * c) * 4294967296 + b * d := by
  grind

theorem bound32 {a b : Int} (ha : 0 ≤ a ∧ a < 4294967296) (hb : 0 ≤ b ∧ b < 4294967296) : 0 ≤ a * b ∧ a * b ≤ 18446744065119617025 := by
  refine ⟨Int.mul_nonneg ha.1 hb.1, ?_⟩
  have := Int.mul_le_mul (show a ≤ 4294967295 by omega) (show b ≤ 4294967295 by omega) hb.1 (by decide)
  simpa using this

theorem mul64 {x y : Int} (hx : 0 ≤ x ∧ x < 18446744073709551616) (hy : 0 ≤ y ∧ y < 18446744073709551616) : math_bits_Mul64 x y = (x * y / 18446744073709551616, x * y % 18446744073709551616) := by
  unfold math_bits_Mul64
  have e := four (x / 4294967296) (x % 4294967296) (y / 4294967296) (y % 4294967296)
  rw [show x / 4294967296 * 4294967296 + x % 4294967296 = x by omega, show y / 4294967296 * 4294967296 + y % 4294967296 = y by omega] at e
  have bp := bound32 (a := x % 4294967296) (b := y % 4294967296) (by omega) (by omega)
  have bq := bound32 (a := x / 4294967296) (b := y % 4294967296) (by omega) (by omega)
  have br := bound32 (a := x % 4294967296) (b := y / 4294967296) (by omega) (by omega)
  have bs := bound32 (a := x / 4294967296) (b := y / 4294967296) (by omega) (by omega)
  congr 1
  · rw [iand32 hx.1 hx.2, iand32 hy.1 hy.2, ishr32, ishr32]
    generalize x % 4294967296 * (y % 4294967296) = p at *
    generalize x / 4294967296 * (y % 4294967296) = q at *
    generalize x % 4294967296 * (y / 4294967296) = r at *
    generalize x / 4294967296 * (y / 4294967296) = s at *
    have w1 : ∀ n : Int, 0 ≤ n → n < 18446744073709551616 → wu64 n = n := fun n h1 h2 => by rw [wu64_eq]; omega
    simp only [ishr32]
    rw [w1 p (by omega) (by omega), w1 q (by omega) (by omega), w1 (q + p / 4294967296) (by omega) (by omega), iand32 (by omega) (by omega), w1 r (by omega) (by omega), w1 ((q + p / 4294967296) % 4294967296 + r) (by omega) (by omega), w1 s (by omega) (by omega),
      w1 (s + (q + p / 4294967296) / 4294967296) (by omega) (by omega), w1 _ (by omega) (by omega)]
    omega

theorem prod_nn {x y : Int} (hx : 0 ≤ x ∧ x < 18446744073709551616) (hy : 0 ≤ y ∧ y < 18446744073709551616) : 0 ≤ x * y ∧ x * y < 340282366920938463463374607431768211456 := by
  refine ⟨Int.mul_nonneg hx.1 hy.1, ?_⟩
  have := Int.mul_le_mul (show x ≤ 18446744073709551615 by omega) (show y ≤ 18446744073709551615 by omega) hy.1 (by decide)
  omega

theorem product_eq {x y : Int} (hx : 0 ≤ x ∧ x < 18446744073709551616) (hy : 0 ≤ y ∧ y < 18446744073709551616) : ref02_Product x y = ofW (x * y) := by
  unfold ref02_Product
  rw [mul64 hx hy]
  rfl

/-! ### Sums of positive and negative parts -/

def posS : List api_Item → Int
  | [] => 0
  | p :: l => (if p.V < 0 then 0 else p.V) + posS l
def negS : List api_Item → Int
  | [] => 0
  | p :: l => (if p.V < 0 then -p.V else 0) + negS l

theorem posS_append (a b : List api_Item) : posS (a ++ b) = posS a + posS b := by
  induction a with
  | nil => simp [posS]
  | cons p a ih => simp only [List.cons_append, posS, ih]; omega
theorem negS_append (a b : List api_Item) : negS (a ++ b) = negS a + negS b := by
  induction a with
  | nil => simp [negS]
  | cons p a ih => simp only [List.cons_append, negS, ih]; omega

def rngI (l : List api_Item) : Prop := ∀ p ∈ l, -9223372036854775808 ≤ p.V ∧ p.V ≤ 9223372036854775807

theorem posS_range (l : List api_Item) (h : rngI l) : 0 ≤ posS l ∧ posS l ≤ l.length * 9223372036854775808 := by
  induction l with
  | nil => simp [posS]
  | cons p l ih =>
    have h1 := h p (by simp)
    have h2 := ih (fun q hq => h q (by simp [hq]))
    simp only [posS, List.length_cons]
    split <;> omega
theorem negS_range (l : List api_Item) (h : rngI l) : 0 ≤ negS l ∧ negS l ≤ l.length * 9223372036854775808 := by
  induction l with
  | nil => simp [negS]
  | cons p l ih =>
    have h1 := h p (by simp)
    have h2 := ih (fun q hq => h q (by simp [hq]))
    simp only [negS, List.length_cons]
    split <;> omega

theorem rngI_take {l : List api_Item} (h : rngI l) (i : Nat) : rngI (l.take i) := fun p hp => h p (List.mem_of_mem_take hp)

theorem posS_step (l : List api_Item) {i : Nat} (hi : i < l.length) : posS (l.take (i + 1)) = posS (l.take i) + (if l[i].V < 0 then 0 else l[i].V) := by
  rw [List.take_succ_eq_append_getElem hi, posS_append]
  simp [posS]
theorem negS_step (l : List api_Item) {i : Nat} (hi : i < l.length) : negS (l.take (i + 1)) = negS (l.take i) + (if l[i].V < 0 then -l[i].V else 0) := by
  rw [List.take_succ_eq_append_getElem hi, negS_append]
  simp [negS]

theorem total_eq (l : List api_Item) (h : rngI l) (hl : l.length ≤ 1000) :
    exact_total l = some (if negS l ≤ posS l then (false, ofW (posS l - negS l)) else (true, ofW (negS l - posS l))) := by
  have hm : l.length ≤ maxLen := by rw [maxLen_eq]; omega
  unfold exact_total exact_total_l2
  obtain ⟨r, hr, hQ⟩ := loop_ind (f := fun s : Int × Int × Int × Int × Int => exact_total_l2s l s.1 s.2.1 s.2.2.1 s.2.2.2.1 s.2.2.2.2)
    (fun s => ∃ i : Nat, i ≤ l.length ∧ s = ((i : Int), (ofW (posS (l.take i))).Hi, (ofW (posS (l.take i))).Lo, (ofW (negS (l.take i))).Hi, (ofW (negS (l.take i))).Lo))
    (fun s => l.length - s.1.toNat) (fun r => r = (if negS l ≤ posS l then (false, ofW (posS l - negS l)) else (true, ofW (negS l - posS l)))) (0, 0, 0, 0, 0) ⟨0, Nat.zero_le _, rfl⟩ (by
      rintro _ ⟨i, hi, rfl⟩
      simp only
      have hP := posS_range (l.take i) (rngI_take h i)
      have hN := negS_range (l.take i) (rngI_take h i)
      have hlen : (l.take i).length ≤ 1000 := by rw [List.length_take]; omega
      have oP : okW (ofW (posS (l.take i))) := ofW_ok hP.1 (by omega)
      have oN : okW (ofW (negS (l.take i))) := ofW_ok hN.1 (by omega)
      unfold exact_total_l2s
      by_cases hlt : i < l.length
      · left
        have hr := h l[i] (List.getElem_mem hlt)
        have e1 : (⟨(ofW (posS (l.take i))).Hi, (ofW (posS (l.take i))).Lo⟩ : api_Wide) = ofW (posS (l.take i)) := rfl
        have e2 : (⟨(ofW (negS (l.take i))).Hi, (ofW (negS (l.take i))).Lo⟩ : api_Wide) = ofW (negS (l.take i)) := rfl
        have oV : okW (wide_Of (exact_size l[i].V)) := by
          rw [size_abs hr.1 hr.2]
          unfold okW wide_Of
          simp only
          split <;> omega
        have vV : wv (wide_Of (exact_size l[i].V)) = if l[i].V < 0 then -l[i].V else l[i].V := by
          rw [size_abs hr.1 hr.2]
          unfold wv wide_Of
          simp only
          split <;> omega
        refine ⟨((i : Int) + 1, (ofW (posS (l.take (i + 1)))).Hi, (ofW (posS (l.take (i + 1)))).Lo, (ofW (negS (l.take (i + 1)))).Hi, (ofW (negS (l.take (i + 1)))).Lo), ?_, ⟨i + 1, hlt, by simp⟩, by show l.length - ((i : Int) + 1).toNat < l.length - (i : Int).toNat; omega⟩
        simp only [Int.ofNat_lt, hlt, decide_true, cond_true, idx_nat, get_some hlt, Option.bind_some, e1, e2, succ_nat hlt hm]
        rw [posS_step l hlt, negS_step l hlt]
        by_cases hv : l[i].V < 0
        · rw [wide_add oN oV, vV, wv_ofW]
          simp only [if_pos hv]
          rw [if_pos (by omega)]
          simp only [decide_eq_true hv, cond_true, Option.bind_some, Int.add_zero]
        · rw [wide_add oP oV, vV, wv_ofW]
          simp only [if_neg hv]
          rw [if_pos (by omega)]
          simp only [decide_eq_false hv, cond_false, Option.bind_some, Int.add_zero]
      · right
        have hn : ¬ ((i : Int) < (l.length : Int)) := by omega
        have hi2 : i = l.length := by omega
        subst hi2
        rw [List.take_length] at *
        have e1 : (⟨(ofW (posS l)).Hi, (ofW (posS l)).Lo⟩ : api_Wide) = ofW (posS l) := rfl
        have e2 : (⟨(ofW (negS l)).Hi, (ofW (negS l)).Lo⟩ : api_Wide) = ofW (negS l) := rfl
        simp only [hn, decide_false, cond_false, e1, e2]
        rw [wide_compare oP oN, wide_sub oP oN, wide_sub oN oP, wv_ofW, wv_ofW]
        by_cases hc : negS l ≤ posS l
        · rw [if_pos hc]
          have : decide ((if posS l < negS l then (-1:Int) else if posS l = negS l then 0 else 1) ≥ 0) = true := by
            rw [decide_eq_true_eq]; split
            · omega
            · split <;> omega
          rw [this, if_pos hc]
          exact ⟨_, rfl, rfl⟩
        · rw [if_neg hc]
          have : decide ((if posS l < negS l then (-1:Int) else if posS l = negS l then 0 else 1) ≥ 0) = false := by
            rw [decide_eq_false_iff_not, if_pos (by omega)]; omega
          rw [this, if_neg hc, if_pos (by omega)]
          exact ⟨_, rfl, rfl⟩)
  rw [hr, hQ]

/-- A number as an int64, or refused. -/
def fit (t : Int) : Int × Bool := if -9223372036854775808 ≤ t ∧ t ≤ 9223372036854775807 then (t, true) else (0, false)

theorem exact_sum (l : List api_Item) (h : rngI l) (hl : l.length ≤ 1000) : exact_Sum l = some (fit (posS l - negS l)) := by
  have hP := posS_range l h
  have hN := negS_range l h
  unfold exact_Sum
  rw [total_eq l h hl]
  simp only [Option.bind_some]
  by_cases hc : negS l ≤ posS l
  · rw [if_pos hc]
    unfold ofW fit
    simp only [Bool.not_false, Bool.and_true, cond_false]
    by_cases hf : posS l - negS l ≤ 9223372036854775807
    · rw [if_pos (by omega)]
      have c : ((((posS l - negS l) / 18446744073709551616 != 0) || decide ((posS l - negS l) % 18446744073709551616 > 9223372036854775808)) || ((posS l - negS l) % 18446744073709551616 == 9223372036854775808)) = false := by
        simp only [Bool.or_eq_false_iff, bne_eq_false_iff_eq, decide_eq_false_iff_not, beq_eq_false_iff_ne]; omega
      rw [c, cond_false]
      congr 2
      rw [w64_id] <;> omega
    · rw [if_neg (by omega)]
      have c : ((((posS l - negS l) / 18446744073709551616 != 0) || decide ((posS l - negS l) % 18446744073709551616 > 9223372036854775808)) || ((posS l - negS l) % 18446744073709551616 == 9223372036854775808)) = true := by
        simp only [Bool.or_eq_true, bne_iff_ne, decide_eq_true_eq, beq_iff_eq]; omega
      rw [c]; rfl
  · rw [if_neg hc]
    unfold ofW fit
    simp only [Bool.not_true, Bool.and_false, Bool.or_false, cond_true]
    by_cases hf : -9223372036854775808 ≤ posS l - negS l
    · rw [if_pos (by omega)]
      have c : (((negS l - posS l) / 18446744073709551616 != 0) || decide ((negS l - posS l) % 18446744073709551616 > 9223372036854775808)) = false := by
        simp only [Bool.or_eq_false_iff, bne_eq_false_iff_eq, decide_eq_false_iff_not]; omega
      rw [c, cond_false]
      congr 2
      rw [w64_eq, IntKind.wrap_u64]
      omega
    · rw [if_neg (by omega)]
      have c : (((negS l - posS l) / 18446744073709551616 != 0) || decide ((negS l - posS l) % 18446744073709551616 > 9223372036854775808)) = true := by
        simp only [Bool.or_eq_true, bne_iff_ne, decide_eq_true_eq]; omega
      rw [c]; rfl

theorem ref_sub {a b : api_Wide} (ha : okW a) (hb : okW b) : ref02_Sub a b = some (if wv b ≤ wv a then (ofW (wv a - wv b), true) else (⟨0, 0⟩, false)) := by
  have hc : ref02_Compare a b = if wv a < wv b then -1 else if wv a = wv b then 0 else 1 := wide_compare ha hb
  have hs := wide_sub ha hb
  unfold ref02_Sub
  simp only [hc]
  by_cases h : wv b ≤ wv a
  · have d : decide ((if wv a < wv b then (-1:Int) else if wv a = wv b then 0 else 1) < 0) = false := by
      rw [decide_eq_false_iff_not, if_neg (by omega)]; split <;> omega
    rw [d, cond_false, if_pos h]
    rw [if_pos h] at hs
    unfold wide_Sub at hs
    obtain ⟨y, h1, h2⟩ := bS hs
    obtain ⟨z, h3, h4⟩ := bS h2
    rw [h1]
    simp only [Option.bind_some]
    rw [h3]
    simp only [Option.bind_some]
    cases hz : z.2 != 0 with
    | true => rw [hz] at h4; simp at h4
    | false => exact cF hz h4
  · have d : decide ((if wv a < wv b then (-1:Int) else if wv a = wv b then 0 else 1) < 0) = true := by
      rw [decide_eq_true_eq, if_pos (by omega)]; omega
    rw [d, if_neg h]
    rfl

theorem number_spec {p q : api_Wide} (hp : okW p) (hq : okW q) : ∃ x, ref08_number p q = some (x, decide (-9223372036854775808 ≤ wv p - wv q ∧ wv p - wv q ≤ 9223372036854775807)) ∧ (-9223372036854775808 ≤ wv p - wv q ∧ wv p - wv q ≤ 9223372036854775807 → x = wv p - wv q) := by
  have rp := wv_range hp
  have rq := wv_range hq
  unfold ref08_number
  rw [ref_sub hp hq, ref_sub hq hp]
  simp only [Option.bind_some]
  by_cases h : wv q ≤ wv p
  · rw [if_pos h]
    unfold ofW
    simp only [cond_true]
    rw [iand63 (by omega) (by omega)]
    refine ⟨w64 ((wv p - wv q) % 18446744073709551616 % 9223372036854775808), ?_, ?_⟩
    · congr 2
      rw [Bool.eq_iff_iff, Bool.and_eq_true, beq_iff_eq, decide_eq_true_eq, decide_eq_true_eq]
      omega
    · intro hf
      rw [w64_id] <;> omega
  · rw [if_neg h, if_pos (by omega)]
    unfold ofW
    simp only [cond_false]
    rw [iand63 (by omega) (by omega)]
    by_cases hm : wv q - wv p = 9223372036854775808
    · have c : ((wv q - wv p) / 18446744073709551616 == 0 && (wv q - wv p) % 18446744073709551616 == 9223372036854775808) = true := by
        rw [Bool.and_eq_true, beq_iff_eq, beq_iff_eq]; omega
      rw [c, cond_true]
      refine ⟨-9223372036854775808, ?_, ?_⟩
      · congr 2
        symm
        rw [decide_eq_true_eq]; omega
      · intro _; omega
    · have c : ((wv q - wv p) / 18446744073709551616 == 0 && (wv q - wv p) % 18446744073709551616 == 9223372036854775808) = false := by
        rw [Bool.and_eq_false_iff, beq_eq_false_iff_ne, beq_eq_false_iff_ne]; omega
      rw [c, cond_false]
      refine ⟨IntKind.i64.wrap (0 - w64 ((wv q - wv p) % 18446744073709551616 % 9223372036854775808)), ?_, ?_⟩
      · congr 2
        rw [Bool.eq_iff_iff, Bool.and_eq_true, beq_iff_eq, decide_eq_true_eq, decide_eq_true_eq]
        omega
      · intro hf
        have e : w64 ((wv q - wv p) % 18446744073709551616 % 9223372036854775808) = wv q - wv p := by rw [w64_id] <;> omega
        rw [e, IntKind.wrap_i64]
        omega

end Go.Win
