/- Pu: chapter 08: what the sum of squared deviations is. -/
import Derived.Test.YtpclnmpmammlfaaPuSpread
namespace Go.Win
open Go.Vc Go.Dec

/-! ### Sums -/

def sumV : List api_Item → Int
  | [] => 0
  | p :: l => p.V + sumV l

theorem sumV_pos (l : List api_Item) : posS l - negS l = sumV l := by
  induction l with
  | nil => rfl
  | cons p l ih => simp only [posS, negS, sumV]; split <;> omega

theorem sumV_append (a b : List api_Item) : sumV (a ++ b) = sumV a + sumV b := by
  induction a with
  | nil => simp [sumV]
  | cons p a ih => simp only [List.cons_append, sumV, ih]; omega

/-- The squared distances from v. -/
def dist (v : Int) : List api_Item → Int
  | [] => 0
  | p :: l => (v - p.V) * (v - p.V) + dist v l

theorem dist_append (v : Int) (a b : List api_Item) : dist v (a ++ b) = dist v a + dist v b := by
  induction a with
  | nil => simp [dist]
  | cons p a ih => simp only [List.cons_append, dist, ih]; omega

theorem dist_eq (v : Int) (l : List api_Item) : dist v l = l.length * (v * v) - 2 * (v * sumV l) + sqS l := by
  induction l with
  | nil => simp [dist, sumV, sqS]
  | cons p l ih =>
    simp only [dist, sumV, sqS, List.length_cons, ih]
    rw [Int.natCast_add]
    grind

theorem dist_nn (v : Int) (l : List api_Item) : 0 ≤ dist v l := by
  induction l with
  | nil => simp [dist]
  | cons p l ih => have := sq_nn (v - p.V); simp only [dist]; omega

/-- The squared differences of all pairs. -/
def pD (l : List api_Item) : Int := l.length * sqS l - sumV l * sumV l

theorem pD_snoc (l : List api_Item) (p : api_Item) : pD (l ++ [p]) = pD l + dist p.V l := by
  unfold pD
  rw [dist_eq, sqS_append, sumV_append, List.length_append]
  simp only [sqS, sumV, List.length_cons, List.length_nil, Int.add_zero]
  rw [Int.natCast_add]
  grind

theorem pD_step (l : List api_Item) {i : Nat} (hi : i < l.length) : pD (l.take (i + 1)) = pD (l.take i) + dist l[i].V (l.take i) := by
  rw [List.take_succ_eq_append_getElem hi, pD_snoc]

theorem dist_step (v : Int) (l : List api_Item) {i : Nat} (hi : i < l.length) : dist v (l.take (i + 1)) = dist v (l.take i) + (v - l[i].V) * (v - l[i].V) := by
  rw [List.take_succ_eq_append_getElem hi, dist_append]
  simp [dist]

/-- Few small values. -/
def smallI (l : List api_Item) : Prop := l.length ≤ 200 ∧ ∀ p ∈ l, -1048576 ≤ p.V ∧ p.V ≤ 1048576

theorem smallI_take {l : List api_Item} (h : smallI l) (i : Nat) : smallI (l.take i) :=
  ⟨by have := h.1; rw [List.length_take]; omega, fun p hp => h.2 p (List.mem_of_mem_take hp)⟩

theorem sq_le {x m : Int} (h1 : -m ≤ x) (h2 : x ≤ m) : x * x ≤ m * m := by
  have hm : 0 ≤ m := by omega
  have a : 0 ≤ (m - x) * (m + x) := Int.mul_nonneg (by omega) (by omega)
  have : (m - x) * (m + x) = m * m - x * x := by grind
  omega

theorem sqS_small {l : List api_Item} (h : ∀ p ∈ l, -1048576 ≤ p.V ∧ p.V ≤ 1048576) : sqS l ≤ l.length * 1099511627776 := by
  induction l with
  | nil => simp [sqS]
  | cons p l ih =>
    have h1 := h p (by simp)
    have h2 := ih (fun q hq => h q (by simp [hq]))
    have h3 := sq_le h1.1 h1.2
    simp only [sqS, List.length_cons]
    omega

theorem dist_small {v : Int} (hv : -1048576 ≤ v ∧ v ≤ 1048576) {l : List api_Item} (h : ∀ p ∈ l, -1048576 ≤ p.V ∧ p.V ≤ 1048576) : dist v l ≤ l.length * 4398046511104 := by
  induction l with
  | nil => simp [dist]
  | cons p l ih =>
    have h1 := h p (by simp)
    have h2 := ih (fun q hq => h q (by simp [hq]))
    have h3 := sq_le (x := v - p.V) (m := 2097152) (by omega) (by omega)
    simp only [dist, List.length_cons]
    omega

theorem sumV_small {l : List api_Item} (h : ∀ p ∈ l, -1048576 ≤ p.V ∧ p.V ≤ 1048576) : -(l.length * 1048576) ≤ sumV l ∧ sumV l ≤ l.length * 1048576 := by
  induction l with
  | nil => simp [sumV]
  | cons p l ih =>
    have h1 := h p (by simp)
    have h2 := ih (fun q hq => h q (by simp [hq]))
    simp only [sumV, List.length_cons]
    omega

theorem pD_bound (l : List api_Item) (h : smallI l) : ∀ i : Nat, i ≤ l.length → 0 ≤ pD (l.take i) ∧ pD (l.take i) ≤ i * 879609302220800 := by
  intro i
  induction i with
  | zero => intro _; simp [pD, sqS, sumV]
  | succ i ih =>
    intro hi
    have h1 := ih (by omega)
    have h2 := dist_nn l[i].V (l.take i)
    have h3 := dist_small (h.2 l[i] (List.getElem_mem (by omega))) (smallI_take h i).2
    have h4 := h.1
    rw [pD_step l (by omega)]
    rw [List.length_take] at h3
    omega

theorem pD_nn {l : List api_Item} (h : smallI l) : 0 ≤ pD l ∧ pD l ≤ 175921860444160000 := by
  have := pD_bound l h l.length (Nat.le_refl _)
  rw [List.take_length] at this
  have := h.1
  omega

theorem nQ_bound {l : List api_Item} (h : smallI l) : 0 ≤ (l.length : Int) * sqS l ∧ (l.length : Int) * sqS l ≤ 43980465111040000 := by
  have h1 := sqS_nn l
  have h2 := sqS_small h.2
  have h3 := h.1
  have h4 := Int.mul_le_mul (show (l.length : Int) ≤ 200 by omega) (show sqS l ≤ 219902325555200 by omega) h1 (by decide)
  exact ⟨Int.mul_nonneg (by omega) h1, by simpa using h4⟩

/-! ### The program -/

/-- The number that the program returns. -/
def ratioOf (d n : Nat) : api_Ratio := ⟨((d / Nat.gcd d n : Nat) : Int), ((n / Nat.gcd d n : Nat) : Int)⟩

theorem total_abs {l : List api_Item} (h : smallI l) : ∃ b, exact_total l = some (b, ⟨0, if sumV l < 0 then -sumV l else sumV l⟩) := by
  have hr : rngI l := fun p hp => by have := h.2 p hp; omega
  have h1 := h.1
  have h2 := sumV_small h.2
  rw [total_eq l hr (by omega)]
  have h3 := sumV_pos l
  by_cases hc : negS l ≤ posS l
  · refine ⟨false, ?_⟩
    rw [if_pos hc, if_neg (by omega), h3]
    unfold ofW
    congr 3 <;> omega
  · refine ⟨true, ?_⟩
    rw [if_neg hc, if_pos (by omega), ← h3]
    unfold ofW
    congr 3 <;> omega

theorem spread_l7 {l : List api_Item} (h : smallI l) (h0 : l ≠ []) : exact_Spread_l7 l (sqS l) 0 0 0 0 0 0 0 0 = some (ratioOf (pD l).toNat l.length, true) := by
  have hlen : 0 < l.length := List.length_pos_iff.2 h0
  have hl := h.1
  have hq0 := sqS_nn l
  have hq1 := sqS_small h.2
  have hnq := nQ_bound h
  have hpd := pD_nn h
  have hs := sumV_small h.2
  obtain ⟨b, htot⟩ := total_abs h
  have wn : wu64 (l.length : Int) = (l.length : Int) := by rw [wu64_eq]; omega
  have t0 : exact_quad_times ⟨0, 0, 0, 0⟩ (sqS l) (l.length : Int) 0 = some ⟨(l.length : Int) * sqS l, 0, 0, 0⟩ := by
    have := times0 (a := 0) (x := sqS l) (y := (l.length : Int)) (by decide) (by omega) (by omega) (by rw [Int.mul_comm]; omega)
    rw [Int.zero_add, Int.mul_comm] at this
    exact this
  have t1 := times_zero (a := (l.length : Int) * sqS l) (x := 0) (y := (l.length : Int)) (by omega) (by omega) (by omega) (by simp) 1 (by omega) (by omega)
  have t2 := times_zero (a := (l.length : Int) * sqS l) (x := 0) (y := (l.length : Int)) (by omega) (by omega) (by omega) (by simp) 2 (by omega) (by omega)
  unfold exact_Spread_l7
  rw [loop_inl (s' := (1, (l.length : Int) * sqS l, 0, 0, 0)) (by
    show exact_Spread_l7s _ _ _ _ _ _ _ _ _ _ = _
    unfold exact_Spread_l7s
    rw [decide_eq_true (by decide : (0 : Int) < 3), cond_true, wn]
    have i0 : idx [sqS l, 0, 0, 0] (0 : Int) = some (sqS l) := rfl
    rw [i0]
    simp only [Option.bind_some]
    rw [t0]
    rfl)]
  rw [loop_inl (s' := (2, (l.length : Int) * sqS l, 0, 0, 0)) (by
    show exact_Spread_l7s _ _ _ _ _ _ _ _ _ _ = _
    unfold exact_Spread_l7s
    rw [decide_eq_true (by decide : (1 : Int) < 3), cond_true, wn]
    have i0 : idx [sqS l, 0, 0, 0] (1 : Int) = some 0 := rfl
    rw [i0]
    simp only [Option.bind_some]
    have t1' : exact_quad_times ⟨(l.length : Int) * sqS l, 0, 0, 0⟩ 0 (l.length : Int) 1 = _ := t1
    rw [t1']
    rfl)]
  rw [loop_inl (s' := (3, (l.length : Int) * sqS l, 0, 0, 0)) (by
    show exact_Spread_l7s _ _ _ _ _ _ _ _ _ _ = _
    unfold exact_Spread_l7s
    rw [decide_eq_true (by decide : (2 : Int) < 3), cond_true, wn]
    have i0 : idx [sqS l, 0, 0, 0] (2 : Int) = some 0 := rfl
    rw [i0]
    simp only [Option.bind_some]
    have t2' : exact_quad_times ⟨(l.length : Int) * sqS l, 0, 0, 0⟩ 0 (l.length : Int) 2 = _ := t2
    rw [t2']
    rfl)]
  refine loop_inr ?_
  show exact_Spread_l7s _ _ _ _ _ _ _ _ _ _ = _
  unfold exact_Spread_l7s
  rw [decide_eq_false (by decide : ¬ (3 : Int) < 3), cond_false, htot, wn]
  simp only [Option.bind_some]
  -- the square of the sum
  generalize hT : (if sumV l < 0 then -sumV l else sumV l) = T
  have hT0 : 0 ≤ T ∧ T ≤ 209715200 := by rw [← hT]; split <;> omega
  have hTT : T * T = sumV l * sumV l := by
    rw [← hT]; split
    · exact Int.neg_mul_neg _ _
    · rfl
  have hTn : T * T = (l.length : Int) * sqS l - pD l := by rw [hTT]; unfold pD; omega
  have s0 : exact_quad_times ⟨0, 0, 0, 0⟩ T T 0 = some (q1 (T * T)) := by
    have := times0 (a := 0) (x := T) (y := T) (by decide) (by omega) (by omega) (by omega)
    rw [Int.zero_add] at this
    exact this
  have hTT0 : 0 ≤ T * T := Int.mul_nonneg hT0.1 hT0.1
  have s1 : exact_quad_times (q1 (T * T)) T 0 1 = some (q1 (T * T)) := times_zero (by omega) (by omega) (by omega) (by simp) 1 (by omega) (by omega)
  have s2 : exact_quad_times (q1 (T * T)) 0 0 2 = some (q1 (T * T)) := times_zero (by omega) (by omega) (by omega) (by simp) 2 (by omega) (by omega)
  rw [s0]
  simp only [Option.bind_some]
  rw [s1]
  simp only [Option.bind_some]
  rw [s1]
  simp only [Option.bind_some]
  rw [s2]
  simp only [Option.bind_some]
  have m1 : exact_minus ⟨(l.length : Int) * sqS l, 0, 0, 0⟩ (q1 (T * T)) = some (q1 (pD l)) := by
    have := minus1 (a := (l.length : Int) * sqS l) (b := T * T) (by omega) hTT0 (by omega)
    rw [show (l.length : Int) * sqS l - T * T = pD l by omega] at this
    exact this
  rw [m1]
  simp only [Option.bind_some]
  rw [by1 (by omega) (by omega)]
  simp only [Option.bind_some]
  obtain ⟨d, hd⟩ := Int.eq_ofNat_of_zero_le hpd.1
  rw [hd] at hpd ⊢
  rw [Int.toNat_natCast]
  generalize hn : l.length = n at *
  have hmod : (d : Int) % (n : Int) = ((d % n : Nat) : Int) := by rw [Int.natCast_emod]
  have hmlt : d % n < n := Nat.mod_lt _ (by omega)
  have w1 : w64 (n : Int) = (n : Int) := by rw [w64_id] <;> omega
  have w2 : w64 ((d : Int) % (n : Int)) = ((d % n : Nat) : Int) := by rw [hmod, w64_id] <;> omega
  rw [w1, w2, num_gcd]
  have hg : Nat.gcd n (d % n) = Nat.gcd d n := by rw [Nat.gcd_comm, ← Nat.gcd_rec, Nat.gcd_comm]
  rw [hg]
  simp only [Option.bind_some]
  have gpos : 0 < Nat.gcd d n := Nat.gcd_pos_of_pos_right _ (by omega)
  have gle : Nat.gcd d n ≤ n := Nat.gcd_le_right _ (by omega)
  have w3 : wu64 ((Nat.gcd d n : Nat) : Int) = ((Nat.gcd d n : Nat) : Int) := by rw [wu64_eq]; omega
  rw [w3, by1 (by omega) (by omega)]
  simp only [Option.bind_some]
  have f1 : (d : Int) / ((Nat.gcd d n : Nat) : Int) = ((d / Nat.gcd d n : Nat) : Int) := by rw [Int.natCast_ediv]
  have f2 : Int.tdiv (n : Int) ((Nat.gcd d n : Nat) : Int) = ((n / Nat.gcd d n : Nat) : Int) := by rw [Int.tdiv_eq_ediv_of_nonneg (by omega), Int.natCast_ediv]
  have q1' : d / Nat.gcd d n ≤ d := Nat.div_le_self _ _
  have q2' : n / Nat.gcd d n ≤ n := Nat.div_le_self _ _
  rw [f1, f2]
  unfold q1
  simp only
  have z : (ior .u64 (ior .u64 0 0) 0) = 0 := by decide
  rw [z]
  have c1 : (((0 : Int) != 0) || decide (((d / Nat.gcd d n : Nat) : Int) ≥ 9223372036854775808)) = false := by
    rw [Bool.or_eq_false_iff, decide_eq_false_iff_not]
    exact ⟨rfl, by omega⟩
  rw [c1, cond_false, ck_pos (by rw [decide_eq_true_eq]; omega)]
  unfold ratioOf
  generalize d / Nat.gcd d n = x at *
  generalize n / Nat.gcd d n = y at *
  rw [show wu64 (y : Int) = (y : Int) by rw [wu64_eq]; omega, w64_id (by omega) (by omega), w64_id (by omega) (by omega)]
  rfl

theorem exact_spread {l : List api_Item} (h : smallI l) : exact_Spread l = some (if l = [] then ⟨0, 1⟩ else ratioOf (pD l).toNat l.length, true) := by
  have hl := h.1
  unfold exact_Spread
  by_cases h0 : l = []
  · subst h0; rfl
  · have hlen : 0 < l.length := List.length_pos_iff.2 h0
    have c : (wu64 (l.length : Int) == 0) = false := by rw [beq_eq_false_iff_ne, wu64_eq]; omega
    rw [c, cond_false, if_neg h0]
    have hm : l.length ≤ maxLen := by rw [maxLen_eq]; omega
    unfold exact_Spread_l3
    obtain ⟨r, hr, hQ⟩ := loop_ind (f := fun s : Int × Int × Int × Int × Int => exact_Spread_l3s l s.1 s.2.1 s.2.2.1 s.2.2.2.1 s.2.2.2.2)
      (fun s => ∃ i : Nat, i ≤ l.length ∧ s = ((i : Int), sqS (l.take i), 0, 0, 0))
      (fun s => l.length - s.1.toNat) (fun r => r = (ratioOf (pD l).toNat l.length, true)) (0, 0, 0, 0, 0) ⟨0, Nat.zero_le _, rfl⟩ (by
        rintro _ ⟨i, hi, rfl⟩
        simp only
        unfold exact_Spread_l3s
        by_cases hlt : i < l.length
        · left
          have hv := h.2 l[i] (List.getElem_mem hlt)
          have hq0 := sqS_nn (l.take i)
          have hq1 := sqS_small (smallI_take h i).2
          have hq2 := (smallI_take h i).1
          have hsq := sq_le hv.1 hv.2
          have hss := sq_nn l[i].V
          simp only [Int.ofNat_lt, hlt, decide_true, cond_true, idx_nat, get_some hlt, Option.bind_some, succ_nat hlt hm, size_abs (show -9223372036854775808 ≤ l[i].V by omega) (by omega)]
          have e1 := abs_sq l[i].V
          have t := times0 (a := sqS (l.take i)) (x := if l[i].V < 0 then -l[i].V else l[i].V) (y := if l[i].V < 0 then -l[i].V else l[i].V) hq0 (by split <;> omega) (by split <;> omega) (by rw [e1]; omega)
          rw [e1] at t
          have t' : exact_quad_times ⟨sqS (l.take i), 0, 0, 0⟩ (if l[i].V < 0 then -l[i].V else l[i].V) (if l[i].V < 0 then -l[i].V else l[i].V) 0 = _ := t
          rw [t']
          refine ⟨_, rfl, ⟨i + 1, hlt, ?_⟩, by show l.length - ((i : Int) + 1).toNat < l.length - (i : Int).toNat; omega⟩
          rw [sqS_step l hlt]
          rfl
        · right
          have hn : ¬ ((i : Int) < (l.length : Int)) := by omega
          have hi2 : i = l.length := by omega
          subst hi2
          rw [List.take_length]
          simp only [hn, decide_false, cond_false]
          rw [spread_l7 h h0]
          exact ⟨_, rfl, rfl⟩)
    rw [hr, hQ]

end Go.Win
