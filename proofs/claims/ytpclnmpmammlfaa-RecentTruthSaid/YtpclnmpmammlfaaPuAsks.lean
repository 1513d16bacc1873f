/- Pu: chapter 21: the answers of a summary. -/
import Derived.Test.YtpclnmpmammlfaaPuPlace
import Derived.Test.YtpclnmpmammlfaaPuDivP
namespace Go.Win
open Go.Vc Go.Dec

/-! ### The middle -/

theorem and_xor_sum : ∀ a b : Nat, a + b = 2 * (a &&& b) + (a ^^^ b) := by
  intro a
  induction a using Nat.strongRecOn with
  | _ a ih =>
    intro b
    by_cases h0 : a = 0
    · subst h0; simp
    · have h := ih (a / 2) (by omega) (b / 2)
      rw [← Nat.and_div_two, ← Nat.xor_div_two] at h
      have h1 := @Nat.and_mod_two_eq_one a b
      have h2 := @Nat.xor_mod_two_eq_one a b
      have h3 := Nat.div_add_mod (a &&& b) 2
      have h4 := Nat.div_add_mod (a ^^^ b) 2
      have h5 : (a &&& b) % 2 < 2 := Nat.mod_lt _ (by decide)
      have h6 : (a ^^^ b) % 2 < 2 := Nat.mod_lt _ (by decide)
      generalize (a &&& b) = x at *
      generalize (a ^^^ b) = y at *
      by_cases ha : a % 2 = 1 <;> by_cases hb : b % 2 = 1
      · have a1 : x % 2 = 1 := h1.2 ⟨ha, hb⟩
        have a2 : ¬ y % 2 = 1 := fun hy => (h2.1 hy) ⟨fun _ => hb, fun _ => ha⟩
        omega
      · have a1 : ¬ x % 2 = 1 := fun hx => hb (h1.1 hx).2
        have a2 : y % 2 = 1 := h2.2 (fun hh => hb (hh.1 ha))
        omega
      · have a1 : ¬ x % 2 = 1 := fun hx => ha (h1.1 hx).1
        have a2 : y % 2 = 1 := h2.2 (fun hh => ha (hh.2 hb))
        omega
      · have a1 : ¬ x % 2 = 1 := fun hx => ha (h1.1 hx).1
        have a2 : ¬ y % 2 = 1 := fun hy => (h2.1 hy) ⟨fun h => absurd h ha, fun h => absurd h hb⟩
        omega

theorem bv_small {n : Nat} (h : n < 9223372036854775808) : (BitVec.ofInt IntKind.i64.bits (n : Int)).toNat = n := by
  have hb : IntKind.i64.bits = 64 := rfl
  rw [hb, BitVec.toNat_ofInt]
  omega

theorem mid_prog {a b : Nat} (ha : a < 4611686018427387904) (hb : b < 4611686018427387904) : w64 (iand .i64 (a : Int) (b : Int) + ishr .i64 (ixor .i64 (a : Int) (b : Int)) 1) = (((a + b) / 2 : Nat) : Int) := by
  have h := and_xor_sum a b
  have ex : ((BitVec.ofInt IntKind.i64.bits (a : Int) ^^^ BitVec.ofInt IntKind.i64.bits (b : Int)).toNat) = a ^^^ b := by
    rw [BitVec.toNat_xor, bv_small (by omega), bv_small (by omega)]
  have ea : ((BitVec.ofInt IntKind.i64.bits (a : Int) &&& BitVec.ofInt IntKind.i64.bits (b : Int)).toNat) = a &&& b := by
    rw [BitVec.toNat_and, bv_small (by omega), bv_small (by omega)]
  have e1 : iand .i64 (a : Int) (b : Int) = ((a &&& b : Nat) : Int) := by
    show IntKind.i64.wrap _ = _
    rw [ea, IntKind.wrap_i64]; omega
  have e2 : ixor .i64 (a : Int) (b : Int) = ((a ^^^ b : Nat) : Int) := by
    show IntKind.i64.wrap _ = _
    rw [ex, IntKind.wrap_i64]; omega
  have e3 : ishr .i64 ((a ^^^ b : Nat) : Int) 1 = (((a ^^^ b) / 2 : Nat) : Int) := by
    show Int.fdiv _ (2 ^ (min (1 : Int).toNat IntKind.i64.bits)) = _
    have : (2 : Int) ^ (min (1 : Int).toNat IntKind.i64.bits) = 2 := by decide
    rw [this, Int.fdiv_eq_ediv_of_nonneg _ (by decide)]
    omega
  rw [e1, e2, e3, w64_id] <;> omega

theorem floor2 {a : Nat} (ha : a < 4611686018427387904) : ref01_FloorDiv (a : Int) 2 = some (((a / 2 : Nat) : Int), true) := by
  unfold ref01_FloorDiv
  have c1 : (((2 : Int) == 0) || (((a : Int) == -9223372036854775808) && ((2 : Int) == -1))) = false := by
    rw [Bool.or_eq_false_iff]; exact ⟨rfl, by simp⟩
  have e1 : Int.tmod (a : Int) 2 = ((a % 2 : Nat) : Int) := by rw [Int.tmod_eq_emod_of_nonneg (by omega)]; omega
  have e2 : Int.tdiv (a : Int) 2 = ((a / 2 : Nat) : Int) := by rw [Int.tdiv_eq_ediv_of_nonneg (by omega)]; omega
  have c2 : ((((a % 2 : Nat) : Int) != 0) && (!(decide ((a : Int) < 0) == decide ((2 : Int) < 0)))) = false := by
    have : decide ((a : Int) < 0) = false := by rw [decide_eq_false_iff_not]; omega
    rw [this]; simp
  rw [c1, cond_false, ck_pos (by decide), ck_pos (by decide), e1, e2, c2, cond_false, w64_id (by omega) (by omega)]

theorem mid_ref {a b : Nat} (ha : a < 4611686018427387904) (hb : b < 4611686018427387904) : ref04_Middle (a : Int) (b : Int) = some (((a + b) / 2 : Nat) : Int) := by
  unfold ref04_Middle
  rw [floor2 ha, floor2 hb]
  simp only [Option.bind_some]
  have e1 : w64 (((a / 2 : Nat) : Int) + ((b / 2 : Nat) : Int)) = ((a / 2 + b / 2 : Nat) : Int) := by rw [w64_id] <;> omega
  have e2 : w64 (2 * ((a / 2 : Nat) : Int)) = 2 * ((a / 2 : Nat) : Int) := by rw [w64_id] <;> omega
  have e3 : w64 (2 * ((b / 2 : Nat) : Int)) = 2 * ((b / 2 : Nat) : Int) := by rw [w64_id] <;> omega
  have e4 : w64 ((a : Int) - 2 * ((a / 2 : Nat) : Int)) = ((a % 2 : Nat) : Int) := by rw [w64_id] <;> omega
  have e5 : w64 (((a % 2 : Nat) : Int) + (b : Int)) = ((a % 2 : Nat) : Int) + (b : Int) := by rw [w64_id] <;> omega
  have e6 : w64 (((a % 2 : Nat) : Int) + (b : Int) - 2 * ((b / 2 : Nat) : Int)) = ((a % 2 + b % 2 : Nat) : Int) := by rw [w64_id] <;> omega
  have e7 : Int.tdiv ((a % 2 + b % 2 : Nat) : Int) 2 = (((a % 2 + b % 2) / 2 : Nat) : Int) := by rw [Int.tdiv_eq_ediv_of_nonneg (by omega)]; omega
  rw [e1, e2, e3, e4, e5, e6, e7, w64_id (n := (((a % 2 + b % 2) / 2 : Nat) : Int)) (by omega) (by omega), w64_id (by omega) (by omega)]
  congr 1
  omega

theorem whole_eq {a b : Nat} (hab : a ≤ b) (hb : b < 4611686018427387904) : ref04_Whole (a : Int) (b : Int) = some (bounds_Whole (a : Int) (b : Int)) := by
  unfold ref04_Whole bounds_Whole
  rw [decide_eq_false (by omega : ¬ (a : Int) > (b : Int)), cond_false, cond_false, mid_ref (by omega) hb]
  simp only [Option.bind_some]
  rw [mid_prog (by omega) hb]
  rfl

/-! ### The value for a rank -/

theorem at_eq (r : api_Ranks) (n : Int) (hl : r.Entries.length ≤ 100000) : rank_At r n = ref21_At r n ∧ ∃ x, ref21_At r n = some x := by
  unfold rank_At ref21_At
  rw [rank_validate r hl, ref_validate r hl]
  simp only [Option.bind_some]
  cases hb : okB r with
  | false => exact ⟨rfl, _, rfl⟩
  | true =>
    have h := (okB_iff r).1 hb
    simp only [cond_true, bne_self_eq_false, cond_false]
    cases hc : (decide (n < 1) || decide (n > r.N)) with
    | true => exact ⟨rfl, _, rfl⟩
    | false =>
      rw [Bool.or_eq_false_iff, decide_eq_false_iff_not, decide_eq_false_iff_not] at hc
      obtain ⟨k, k1, k2, k3⟩ := place_first h (show 1 ≤ n ∧ n ≤ r.N by omega) hl
      simp only [cond_false]
      rw [k2, k3]
      simp only [Option.bind_some]
      rw [ent_idx k1.lt]
      exact ⟨by first | rfl | trivial, _, rfl⟩

theorem at_in {r : api_Ranks} (hb : okB r = true) {n : Int} (hn : 1 ≤ n ∧ n ≤ r.N) (hl : r.Entries.length ≤ 100000) : ∃ k : Nat, rank_place r.Entries n 0 = some (k : Int) ∧ idx r.Entries (k : Int) = some (ent r.Entries k) ∧ ref21_At r n = some ((ent r.Entries k).V, 0) := by
  have h := (okB_iff r).1 hb
  obtain ⟨k, k1, k2, k3⟩ := place_first h hn hl
  refine ⟨k, k2, ent_idx k1.lt, ?_⟩
  unfold ref21_At
  rw [ref_validate r hl, hb]
  simp only [Option.bind_some, cond_true, bne_self_eq_false, cond_false]
  have c : (decide (n < 1) || decide (n > r.N)) = false := by rw [Bool.or_eq_false_iff, decide_eq_false_iff_not, decide_eq_false_iff_not]; omega
  rw [c, cond_false, k3]
  simp only [Option.bind_some]
  rw [ent_idx k1.lt]
  rfl

theorem imax_one (t : Int) : imax 1 t = if t < 1 then 1 else t := by
  show (if t > 1 then t else 1) = _
  split <;> split <;> omega

/-- The rank of a quantile: one more where something is left. -/
theorem target_eq {p q n : Int} (hp : 0 ≤ p) (hpq : p ≤ q) (hq : 1 ≤ q) (hq2 : q ≤ 9223372036854775807) (hn : 1 ≤ n) (hn2 : n ≤ 1099511627776) :
    ∃ lo rem : Int, wide_Div (wide_Product (wu64 p) (wu64 n)) (wide_Of (wu64 q)) = some (⟨0, lo⟩, rem |> ofW, true) ∧ ref02_Div (ref02_Product (wu64 p) (wu64 n)) (ref02_Of (wu64 q)) = some (⟨0, lo⟩, ofW rem, true) ∧
      lo = p * n / q ∧ rem = p * n % q ∧ 0 ≤ lo ∧ lo ≤ n ∧ (rem ≠ 0 → lo + 1 ≤ n) ∧ 0 ≤ rem ∧ rem < q := by
  have e1 : wu64 p = p := by rw [wu64_eq]; omega
  have e2 : wu64 n = n := by rw [wu64_eq]; omega
  have e3 : wu64 q = q := by rw [wu64_eq]; omega
  rw [e1, e2, e3]
  have hX0 : 0 ≤ p * n := Int.mul_nonneg hp (by omega)
  have hX1 := (prod_nn (x := p) (y := n) (by omega) (by omega)).2
  have hprod : ref02_Product p n = ofW (p * n) := product_eq (by omega) (by omega)
  have hprod2 : wide_Product p n = ofW (p * n) := hprod
  have oX := ofW_ok hX0 hX1
  obtain ⟨oq, vq⟩ := ref_of (n := q) (by omega) (by omega)
  have hqq : q * n = n * q := Int.mul_comm _ _
  have hle : p * n ≤ q * n := Int.mul_le_mul_of_nonneg_right hpq (by omega)
  have hdm := Int.mul_ediv_add_emod (p * n) q
  have hr0 := Int.emod_nonneg (p * n) (show q ≠ 0 by omega)
  have hr1 := Int.emod_lt_of_pos (p * n) (show 0 < q by omega)
  have hlo0 : 0 ≤ p * n / q := Int.ediv_nonneg hX0 (by omega)
  have hlo1 : p * n / q ≤ n := by
    have : p * n / q ≤ (n * q) / q := Int.ediv_le_ediv (by omega) (by omega)
    rwa [Int.mul_ediv_cancel _ (by omega)] at this
  have hsmall : ofW (p * n / q) = ⟨0, p * n / q⟩ := by
    unfold ofW; congr 1 <;> omega
  refine ⟨p * n / q, p * n % q, ?_, ?_, rfl, rfl, hlo0, hlo1, fun hne => ?_, hr0, hr1⟩
  · rw [hprod2]
    have := wide_div oX (b := wide_Of q) oq (by show 0 < wv (ref02_Of q); rw [vq]; omega)
    rw [this, wv_ofW]
    show some (ofW (p * n / wv (ref02_Of q)), ofW (p * n % wv (ref02_Of q)), true) = _
    rw [vq, hsmall]
  · rw [hprod, ref_div oX oq (by rw [vq]; omega), wv_ofW, vq, hsmall]
  · -- the quotient is less than n
    rcases Int.lt_or_le (p * n / q) n with hlt | hge
    · omega
    · exfalso
      have : p * n / q = n := by omega
      rw [this] at hdm
      omega

theorem quantile_eq (r : api_Ranks) (p q : Int) (hp : -9223372036854775808 ≤ p ∧ p ≤ 9223372036854775807) (hq : -9223372036854775808 ≤ q ∧ q ≤ 9223372036854775807) (hl : r.Entries.length ≤ 100000) :
    rank_Quantile r p q = ref21_Quantile r p q ∧ ∃ x, ref21_Quantile r p q = some x := by
  unfold rank_Quantile ref21_Quantile
  rw [rank_validate r hl, ref_validate r hl]
  simp only [Option.bind_some]
  cases hb : okB r with
  | false => exact ⟨rfl, _, rfl⟩
  | true =>
    have h := (okB_iff r).1 hb
    simp only [cond_true, bne_self_eq_false, cond_false]
    have hasks : (!ref08_Asks p q) = ((decide (q < 1) || decide (p < 0)) || decide (p > q)) := by
      unfold ref08_Asks
      rw [Bool.eq_iff_iff]
      simp only [Bool.not_eq_true', Bool.and_eq_false_iff, decide_eq_false_iff_not, Bool.or_eq_true, decide_eq_true_eq]
      omega
    rw [hasks]
    cases hc : ((decide (q < 1) || decide (p < 0)) || decide (p > q)) with
    | true => exact ⟨rfl, _, rfl⟩
    | false =>
      simp only [Bool.or_eq_false_iff, decide_eq_false_iff_not] at hc
      simp only [cond_false]
      cases hN : r.N == 0 with
      | true => exact ⟨rfl, _, rfl⟩
      | false =>
        rw [beq_eq_false_iff_ne] at hN
        have n0 := h.n0
        have n1 := h.n1
        obtain ⟨lo, rem, d1, d2, _, _, l0, l1, l2, r0, r1⟩ := target_eq (p := p) (q := q) (n := r.N) (by omega) (by omega) (by omega) (by omega) (by omega) n1
        unfold ref08_Target
        simp only [d1, d2, Option.bind_some, cond_false]
        have hz : (!((ofW rem).Hi == 0 && ((ofW rem).Lo == 0 && true))) = decide (rem ≠ 0) := by
          have g1 : wv (ofW rem) = rem := wv_ofW rem
          unfold ofW at *
          unfold wv at g1
          rw [Bool.eq_iff_iff]
          simp only [Bool.and_true, Bool.not_eq_true', Bool.and_eq_false_iff, beq_eq_false_iff_ne, decide_eq_true_eq]
          simp only at g1
          omega
        rw [hz]
        by_cases hr : rem = 0
        · rw [decide_eq_false (by simpa using hr)]
          simp only [cond_false, Option.bind_some]
          have e1 : w64 lo = lo := by rw [w64_id] <;> omega
          rw [e1]
          obtain ⟨k, k1, k2, k3⟩ := at_in hb (n := imax 1 lo) (by rw [imax_one]; split <;> omega) hl
          unfold rank_Quantile_j4
          rw [e1, k1, k3]
          simp only [Option.bind_some]
          rw [k2]
          exact ⟨rfl, _, rfl⟩
        · rw [decide_eq_true (by simpa using hr)]
          have l3 := l2 hr
          simp only [cond_true, Option.bind_some]
          have e1 : w64 lo = lo := by rw [w64_id] <;> omega
          have e2 : w64 (lo + 1) = lo + 1 := by rw [w64_id] <;> omega
          have e3 : wu64 (lo + 1) = lo + 1 := by rw [wu64_eq]; omega
          rw [e1, e2, e3]
          obtain ⟨k, k1, k2, k3⟩ := at_in hb (n := imax 1 (lo + 1)) (by rw [imax_one]; split <;> omega) hl
          unfold rank_Quantile_j4
          rw [e2, k1, k3]
          simp only [Option.bind_some]
          rw [k2]
          exact ⟨rfl, _, rfl⟩

/-! ### The number of values that are not greater -/

/-- The first m entries are not greater than v, the others are. -/
theorem split_at {l : List api_Entry} {N : Int} (h : OkR l N) (v : Int) : ∃ m, m ≤ l.length ∧ (∀ i, i < m → (ent l i).V ≤ v) ∧ ∀ i, m ≤ i → i < l.length → v < (ent l i).V := by
  have key : ∀ m, m ≤ l.length → (∃ k, k ≤ m ∧ (∀ i, i < k → (ent l i).V ≤ v) ∧ ∀ i, k ≤ i → i < m → v < (ent l i).V) := by
    intro m
    induction m with
    | zero => intro _; exact ⟨0, Nat.le_refl _, fun i hi => by omega, fun i _ hi => by omega⟩
    | succ m ih =>
      intro hm
      obtain ⟨k, k1, k2, k3⟩ := ih (by omega)
      by_cases hv : (ent l m).V ≤ v
      · have : k = m := by
          rcases Nat.lt_or_ge k m with hlt | hge
          · have := k3 k (Nat.le_refl _) hlt
            have := (up_lt h hlt (by omega)).1
            omega
          · omega
        subst this
        refine ⟨k + 1, Nat.le_refl _, fun i hi => ?_, fun i h1 h2 => by omega⟩
        rcases Nat.lt_or_ge i k with g | g
        · exact k2 i g
        · have : i = k := by omega
          subst this; exact hv
      · refine ⟨k, by omega, k2, fun i h1 h2 => ?_⟩
        rcases Nat.lt_or_ge i m with g | g
        · exact k3 i h1 g
        · have : i = m := by omega
          subst this; omega
  exact key l.length (Nat.le_refl _)

/-- The bounds. -/
def loAt (l : List api_Entry) (m : Nat) : Int := if m = 0 then 0 else (ent l (m - 1)).Min
def hiAt (l : List api_Entry) (N : Int) (m : Nat) : Int := if m < l.length then (ent l m).Max - 1 else N

theorem rank_rank_loop {r : api_Ranks} (h : OkR r.Entries r.N) (v : Int) (hl : r.Entries.length ≤ 100000) {m : Nat} (h1 : m ≤ r.Entries.length) (h2 : ∀ i, i < m → (ent r.Entries i).V ≤ v) (h3 : ∀ i, m ≤ i → i < r.Entries.length → v < (ent r.Entries i).V) :
    rank_Rank_l3 r v 0 0 = some ((bounds_Whole (loAt r.Entries m) (hiAt r.Entries r.N m)).1, 0) := by
  have hm : r.Entries.length ≤ maxLen := by rw [maxLen_eq]; omega
  unfold rank_Rank_l3
  obtain ⟨x, hx, hQ⟩ := loop_ind (f := fun s : Int × Int => rank_Rank_l3s r v s.1 s.2)
    (fun s => ∃ i : Nat, i ≤ m ∧ s = (loAt r.Entries i, (i : Int)))
    (fun s => r.Entries.length - s.2.toNat) (fun x => x = ((bounds_Whole (loAt r.Entries m) (hiAt r.Entries r.N m)).1, 0)) (0, 0) ⟨0, Nat.zero_le _, rfl⟩ (by
      rintro _ ⟨i, hi, rfl⟩
      simp only
      unfold rank_Rank_l3s
      by_cases hlt : i < r.Entries.length
      · simp only [Int.ofNat_lt, hlt, decide_true, cond_true, ent_idx hlt, Option.bind_some, succ_nat hlt hm]
        by_cases him : i < m
        · left
          rw [decide_eq_false (by have := h2 i him; omega), cond_false]
          refine ⟨_, rfl, ⟨i + 1, him, ?_⟩, by show r.Entries.length - ((i : Int) + 1).toNat < r.Entries.length - (i : Int).toNat; omega⟩
          unfold loAt
          rw [if_neg (by omega), Nat.add_sub_cancel]
          rfl
        · right
          have : i = m := by omega
          subst this
          rw [decide_eq_true (by have := h3 i (Nat.le_refl _) hlt; omega), cond_true]
          have hr := h.rng i hlt
          have hn := h.n1
          refine ⟨_, rfl, ?_⟩
          unfold hiAt
          rw [if_pos hlt, w64_id (by omega) (by omega)]
      · right
        have : i = m := by omega
        subst this
        rw [decide_eq_false (by omega), cond_false]
        refine ⟨_, rfl, ?_⟩
        unfold hiAt
        rw [if_neg hlt])
  rw [hx, hQ]

theorem between_hi {r : api_Ranks} (h : OkR r.Entries r.N) (v lo : Int) (hl : r.Entries.length ≤ 100000) {m : Nat} (h1 : m ≤ r.Entries.length) (h2 : ∀ i, i < m → (ent r.Entries i).V ≤ v) (h3 : ∀ i, m ≤ i → i < r.Entries.length → v < (ent r.Entries i).V) :
    ref20_Between_l7 r.Entries v lo r.N ((r.Entries.length : Int) - 1) = some (lo, hiAt r.Entries r.N m) := by
  unfold ref20_Between_l7
  obtain ⟨x, hx, hQ⟩ := loop_ind (f := fun s : Int × Int => ref20_Between_l7s r.Entries v lo s.1 s.2)
    (fun s => ∃ k : Nat, k ≤ r.Entries.length ∧ s = ((if k ≤ m then hiAt r.Entries r.N m else hiAt r.Entries r.N k), (k : Int) - 1))
    (fun s => (s.2 + 1).toNat) (fun x => x = (lo, hiAt r.Entries r.N m)) (r.N, (r.Entries.length : Int) - 1) ⟨r.Entries.length, Nat.le_refl _, by
      have : hiAt r.Entries r.N r.Entries.length = r.N := by unfold hiAt; rw [if_neg (by omega)]
      rw [this]
      by_cases hle : r.Entries.length ≤ m
      · have : m = r.Entries.length := by omega
        subst this
        rw [if_pos hle, this]
      · rw [if_neg hle]⟩ (by
      rintro _ ⟨k, hk, rfl⟩
      simp only
      unfold ref20_Between_l7s
      cases k with
      | zero =>
        right
        rw [decide_eq_false (by omega), cond_false, if_pos (Nat.zero_le _)]
        exact ⟨_, rfl, rfl⟩
      | succ k =>
        left
        have hlt : k < r.Entries.length := by omega
        have e1 : ((k + 1 : Nat) : Int) - 1 = (k : Int) := by omega
        have e2 : w64 ((k : Int) - 1) = (k : Int) - 1 := by rw [w64_id] <;> omega
        rw [e1, decide_eq_true (by omega : (k : Int) ≥ 0), cond_true, ent_idx hlt, e2]
        simp only [Option.bind_some]
        by_cases hkm : k < m
        · rw [decide_eq_false (by have := h2 k hkm; omega), cond_false, if_pos (by omega)]
          exact ⟨_, rfl, ⟨k, by omega, by rw [if_pos (by omega)]⟩, by show ((k : Int) - 1 + 1).toNat < ((k : Int) + 1).toNat; omega⟩
        · rw [decide_eq_true (by have := h3 k (by omega) hlt; omega), cond_true]
          have hr := h.rng k hlt
          have hn := h.n1
          rw [w64_id (by omega) (by omega)]
          refine ⟨_, rfl, ⟨k, by omega, ?_⟩, by show ((k : Int) - 1 + 1).toNat < ((k : Int) + 1).toNat; omega⟩
          have hh : hiAt r.Entries r.N k = (ent r.Entries k).Max - 1 := by unfold hiAt; rw [if_pos hlt]
          by_cases hle : k ≤ m
          · have : k = m := by omega
            subst this
            rw [if_pos hle, hh]
          · rw [if_neg hle, hh])
  rw [hx, hQ]

theorem between_eq {r : api_Ranks} (h : OkR r.Entries r.N) (v : Int) (hl : r.Entries.length ≤ 100000) {m : Nat} (h1 : m ≤ r.Entries.length) (h2 : ∀ i, i < m → (ent r.Entries i).V ≤ v) (h3 : ∀ i, m ≤ i → i < r.Entries.length → v < (ent r.Entries i).V) :
    ref20_Between r.Entries r.N v = some (loAt r.Entries m, hiAt r.Entries r.N m) := by
  have hm : r.Entries.length ≤ maxLen := by rw [maxLen_eq]; omega
  unfold ref20_Between ref20_Between_l2
  obtain ⟨x, hx, hQ⟩ := loop_ind (f := fun s : Int × Int => ref20_Between_l2s r.Entries r.N v s.1 s.2)
    (fun s => ∃ i : Nat, i ≤ r.Entries.length ∧ s = ((if i ≤ m then loAt r.Entries i else loAt r.Entries m), (i : Int)))
    (fun s => r.Entries.length - s.2.toNat) (fun x => x = (loAt r.Entries m, hiAt r.Entries r.N m)) (0, 0) ⟨0, Nat.zero_le _, by rw [if_pos (Nat.zero_le _)]; rfl⟩ (by
      rintro _ ⟨i, hi, rfl⟩
      simp only
      unfold ref20_Between_l2s
      by_cases hlt : i < r.Entries.length
      · left
        simp only [Int.ofNat_lt, hlt, decide_true, cond_true, ent_idx hlt, Option.bind_some, succ_nat hlt hm]
        by_cases him : i < m
        · rw [decide_eq_true (h2 i him), cond_true]
          refine ⟨_, rfl, ⟨i + 1, hlt, ?_⟩, by show r.Entries.length - ((i : Int) + 1).toNat < r.Entries.length - (i : Int).toNat; omega⟩
          rw [if_pos (by omega)]
          unfold loAt
          rw [if_neg (by omega), Nat.add_sub_cancel]
          rfl
        · rw [decide_eq_false (by have := h3 i (by omega) hlt; omega), cond_false]
          refine ⟨_, rfl, ⟨i + 1, hlt, ?_⟩, by show r.Entries.length - ((i : Int) + 1).toNat < r.Entries.length - (i : Int).toNat; omega⟩
          by_cases hle : i ≤ m
          · have : i = m := by omega
            subst this
            rw [if_pos (Nat.le_refl _), if_neg (by omega : ¬ i + 1 ≤ i)]
            rfl
          · rw [if_neg hle, if_neg (by omega : ¬ i + 1 ≤ m)]
            rfl
      · right
        have : i = r.Entries.length := by omega
        subst this
        have e1 : w64 ((r.Entries.length : Int) - 1) = (r.Entries.length : Int) - 1 := by rw [w64_id] <;> omega
        rw [decide_eq_false (by omega), cond_false, e1, between_hi h v _ hl h1 h2 h3]
        refine ⟨_, rfl, ?_⟩
        by_cases hle : r.Entries.length ≤ m
        · have : r.Entries.length = m := by omega
          rw [if_pos hle, this]
        · rw [if_neg hle])
  rw [hx, hQ]

theorem bounds_order {l : List api_Entry} {N : Int} (h : OkR l N) {m : Nat} (h1 : m ≤ l.length) : 0 ≤ loAt l m ∧ loAt l m ≤ hiAt l N m ∧ hiAt l N m ≤ N := by
  have n0 := h.n0
  unfold loAt hiAt
  by_cases hm0 : m = 0
  · subst hm0
    rw [if_pos rfl]
    by_cases hl : 0 < l.length
    · rw [if_pos hl, h.first hl]
      have := h.rng 0 hl
      omega
    · rw [if_neg hl]
      omega
  · rw [if_neg hm0]
    have g1 := h.rng (m - 1) (by omega)
    by_cases hl : m < l.length
    · rw [if_pos hl]
      have g2 := h.rng m hl
      have g3 := h.up (m - 1) (by omega)
      rw [show m - 1 + 1 = m by omega] at g3
      omega
    · rw [if_neg hl]
      omega

theorem rank_eq (r : api_Ranks) (v : Int) (hl : r.Entries.length ≤ 100000) : rank_Rank r v = ref21_Rank r v ∧ ∃ x, ref21_Rank r v = some x := by
  unfold rank_Rank ref21_Rank
  rw [rank_validate r hl, ref_validate r hl]
  simp only [Option.bind_some]
  cases hb : okB r with
  | false => exact ⟨rfl, _, rfl⟩
  | true =>
    have h := (okB_iff r).1 hb
    simp only [cond_true, bne_self_eq_false, cond_false]
    obtain ⟨m, h1, h2, h3⟩ := split_at h v
    rw [rank_rank_loop h v hl h1 h2 h3, between_eq h v hl h1 h2 h3]
    simp only [Option.bind_some]
    obtain ⟨b1, b2, b3⟩ := bounds_order h h1
    have n1 := h.n1
    generalize loAt r.Entries m = x at *
    generalize hiAt r.Entries r.N m = y at *
    obtain ⟨x, rfl⟩ := Int.eq_ofNat_of_zero_le b1
    obtain ⟨y, rfl⟩ := Int.eq_ofNat_of_zero_le (show 0 ≤ y by omega)
    rw [whole_eq (by omega) (by omega)]
    exact ⟨rfl, _, rfl⟩

/-! ### The statement RankAsks -/

theorem law21_RankAsks_true (p0 : api_Ranks) (p1 p2 p3 p4 : Int) (_ : wf_api_Ranks p0) (_ : wfI .i64 p1) (w2 : wfI .i64 p2) (w3 : wfI .i64 p3) (_ : wfI .i64 p4) : law21_RankAsks p0 p1 p2 p3 p4 = some true := by
  unfold law21_RankAsks
  rw [few_spec21, law21_awake_true]
  by_cases hl : p0.Entries.length ≤ 150
  · obtain ⟨a1, x, a2⟩ := at_eq p0 p1 (by omega)
    obtain ⟨b1, y, b2⟩ := quantile_eq p0 p2 p3 (rng64 w2) (rng64 w3) (by omega)
    obtain ⟨c1, z, c2⟩ := rank_eq p0 p4 (by omega)
    rw [decide_eq_true hl, a1, a2, b1, b2, c1, c2]
    simp
  · rw [decide_eq_false hl]
    rfl

end Go.Win
