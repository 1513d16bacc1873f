/- Pu: chapter 21: the summary of the values of two. -/
import Derived.Test.YtmipeaidieflmaaPuAsks
set_option linter.unusedVariables false
set_option linter.unusedSimpArgs false
set_option linter.unnecessarySimpa false
set_option linter.unusedSectionVars false
namespace Go.Win
open Go.Vc Go.Dec

/-- Whether the next entry is taken from the first list. -/
def tk (A B : List api_Entry) (p : Nat × Nat) : Bool := decide (p.2 = B.length) || (decide (p.1 < A.length) && decide ((ent A p.1).V ≤ (ent B p.2).V))

def stepP (A B : List api_Entry) (p : Nat × Nat) : Nat × Nat := cond (tk A B p) (p.1 + 1, p.2) (p.1, p.2 + 1)

def ptM (A B : List api_Entry) : Nat → Nat × Nat
  | 0 => (0, 0)
  | k + 1 => stepP A B (ptM A B k)

/-- The k-th entry of the merged summary. -/
def me (A B : List api_Entry) (a b : Int) (k : Nat) : api_Entry :=
  ⟨cond (tk A B (ptM A B k)) (ent A (ptM A B k).1).V (ent B (ptM A B k).2).V,
   loAt A (ptM A B (k + 1)).1 + loAt B (ptM A B (k + 1)).2, hiAt A a (ptM A B k).1 + hiAt B b (ptM A B k).2 + 1⟩

def meL (A B : List api_Entry) (a b : Int) (n : Nat) : List api_Entry := (List.range n).map (me A B a b)

theorem meL_length (A B : List api_Entry) (a b : Int) (n : Nat) : (meL A B a b n).length = n := by unfold meL; simp

theorem meL_succ (A B : List api_Entry) (a b : Int) (n : Nat) : meL A B a b (n + 1) = meL A B a b n ++ [me A B a b n] := by
  unfold meL
  rw [List.range_succ, List.map_append]
  rfl

theorem meL_ent (A B : List api_Entry) (a b : Int) {n i : Nat} (h : i < n) : ent (meL A B a b n) i = me A B a b i := by
  unfold ent meL
  rw [List.getD_eq_getElem?_getD, List.getElem?_map, List.getElem?_range h]
  rfl

theorem tk_left {A B : List api_Entry} {p : Nat × Nat} (h1 : p.1 ≤ A.length) (_ : p.2 ≤ B.length) (h3 : p.1 + p.2 < A.length + B.length) (h : tk A B p = true) :
    p.1 < A.length ∧ (p.2 < B.length → (ent A p.1).V ≤ (ent B p.2).V) := by
  unfold tk at h
  simp only [Bool.or_eq_true, Bool.and_eq_true, decide_eq_true_eq] at h
  rcases h with h | ⟨h4, h5⟩
  · exact ⟨by omega, fun g => by omega⟩
  · exact ⟨h4, fun _ => h5⟩

theorem tk_right {A B : List api_Entry} {p : Nat × Nat} (h2 : p.2 ≤ B.length) (h : tk A B p = false) :
    p.2 < B.length ∧ (p.1 < A.length → (ent B p.2).V < (ent A p.1).V) := by
  unfold tk at h
  simp only [Bool.or_eq_false_iff, Bool.and_eq_false_iff, decide_eq_false_iff_not] at h
  obtain ⟨h4, h5⟩ := h
  refine ⟨by omega, fun g => ?_⟩
  rcases h5 with h5 | h5
  · exact absurd g h5
  · omega

theorem pt_in (A B : List api_Entry) : ∀ k, k ≤ A.length + B.length → (ptM A B k).1 ≤ A.length ∧ (ptM A B k).2 ≤ B.length ∧ (ptM A B k).1 + (ptM A B k).2 = k := by
  intro k
  induction k with
  | zero => intro _; exact ⟨Nat.zero_le _, Nat.zero_le _, rfl⟩
  | succ k ih =>
    intro hk
    obtain ⟨i1, i2, i3⟩ := ih (by omega)
    show (stepP A B (ptM A B k)).1 ≤ _ ∧ (stepP A B (ptM A B k)).2 ≤ _ ∧ (stepP A B (ptM A B k)).1 + (stepP A B (ptM A B k)).2 = _
    unfold stepP
    cases ht : tk A B (ptM A B k) with
    | true =>
      have := (tk_left i1 i2 (by omega) ht).1
      simp only [cond_true]
      omega
    | false =>
      have := (tk_right i2 ht).1
      simp only [cond_false]
      omega

theorem pt_inv {A B : List api_Entry} {a b : Int} (hA : OkR A a) (hB : OkR B b) : ∀ k, k ≤ A.length + B.length →
    (∀ j, j < (ptM A B k).2 → (ptM A B k).1 < A.length → (ent B j).V < (ent A (ptM A B k).1).V) ∧
    (∀ i, i < (ptM A B k).1 → (ptM A B k).2 < B.length → (ent A i).V ≤ (ent B (ptM A B k).2).V) := by
  intro k
  induction k with
  | zero => intro _; exact ⟨fun j hj => absurd hj (Nat.not_lt_zero _), fun i hi => absurd hi (Nat.not_lt_zero _)⟩
  | succ k ih =>
    intro hk
    obtain ⟨i1, i2, i3⟩ := pt_in A B k (by omega)
    obtain ⟨j1, j2⟩ := ih (by omega)
    rw [show ptM A B (k + 1) = stepP A B (ptM A B k) from rfl]
    unfold stepP
    cases ht : tk A B (ptM A B k) with
    | true =>
      obtain ⟨t1, t2⟩ := tk_left i1 i2 (by omega) ht
      simp only [cond_true]
      refine ⟨fun j hj hl => ?_, fun i hi hl => ?_⟩
      · have g1 := j1 j hj t1
        have g2 := (hA.up (ptM A B k).1 hl).1
        omega
      · rcases Nat.lt_or_ge i (ptM A B k).1 with g | g
        · exact j2 i g hl
        · have : i = (ptM A B k).1 := by omega
          rw [this]
          exact t2 hl
    | false =>
      obtain ⟨t1, t2⟩ := tk_right i2 ht
      simp only [cond_false]
      refine ⟨fun j hj hl => ?_, fun i hi hl => ?_⟩
      · rcases Nat.lt_or_ge j (ptM A B k).2 with g | g
        · exact j1 j g hl
        · have : j = (ptM A B k).2 := by omega
          rw [this]
          exact t2 hl
      · have g1 := j2 i hi t1
        have g2 := (hB.up (ptM A B k).2 hl).1
        omega

theorem me_left {A B : List api_Entry} {a b : Int} {k : Nat} (hk : k < A.length + B.length) (ht : tk A B (ptM A B k) = true) :
    me A B a b k = ⟨(ent A (ptM A B k).1).V, (ent A (ptM A B k).1).Min + loAt B (ptM A B k).2, (ent A (ptM A B k).1).Max + hiAt B b (ptM A B k).2⟩ := by
  obtain ⟨i1, i2, i3⟩ := pt_in A B k (by omega)
  obtain ⟨t1, _⟩ := tk_left i1 i2 (by omega) ht
  unfold me
  rw [show ptM A B (k + 1) = stepP A B (ptM A B k) from rfl]
  unfold stepP
  rw [ht]
  simp only [cond_true]
  have e1 : loAt A ((ptM A B k).1 + 1) = (ent A (ptM A B k).1).Min := by unfold loAt; rw [if_neg (by omega), Nat.add_sub_cancel]
  have e2 : hiAt A a (ptM A B k).1 = (ent A (ptM A B k).1).Max - 1 := by unfold hiAt; rw [if_pos t1]
  rw [e1, e2]
  congr 1
  omega

theorem me_right {A B : List api_Entry} {a b : Int} {k : Nat} (hk : k < A.length + B.length) (ht : tk A B (ptM A B k) = false) :
    me A B a b k = ⟨(ent B (ptM A B k).2).V, (ent B (ptM A B k).2).Min + loAt A (ptM A B k).1, (ent B (ptM A B k).2).Max + hiAt A a (ptM A B k).1⟩ := by
  obtain ⟨i1, i2, i3⟩ := pt_in A B k (by omega)
  obtain ⟨t1, _⟩ := tk_right i2 ht
  unfold me
  rw [show ptM A B (k + 1) = stepP A B (ptM A B k) from rfl]
  unfold stepP
  rw [ht]
  simp only [cond_false]
  have e1 : loAt B ((ptM A B k).2 + 1) = (ent B (ptM A B k).2).Min := by unfold loAt; rw [if_neg (by omega), Nat.add_sub_cancel]
  have e2 : hiAt B b (ptM A B k).2 = (ent B (ptM A B k).2).Max - 1 := by unfold hiAt; rw [if_pos t1]
  rw [e1, e2]
  congr 1 <;> omega

theorem between_at {B : List api_Entry} {b : Int} (hB : OkR B b) (e : api_Entry) (h1 : 0 ≤ e.Min ∧ e.Min ≤ 1099511627776) (h2 : 0 ≤ e.Max ∧ e.Max ≤ 1099511627776) {j : Nat} (hj : j ≤ B.length) (hl : B.length ≤ 1048576) :
    rank_between e B (j : Int) b = some ⟨e.V, e.Min + loAt B j, e.Max + hiAt B b j⟩ := by
  have n1 := hB.n1
  have n0 := hB.n0
  obtain ⟨o1, o2, o3⟩ := bounds_order hB hj
  have hj1 : ∀ m : Int, rank_between_j1 e B (j : Int) b m = some ⟨e.V, m, e.Max + hiAt B b j⟩ := by
    intro m
    unfold rank_between_j1
    by_cases hlt : j < B.length
    · have r := hB.rng j hlt
      have e1 : hiAt B b j = (ent B j).Max - 1 := by unfold hiAt; rw [if_pos hlt]
      rw [decide_eq_true (by omega), cond_true, ent_idx hlt]
      simp only [Option.bind_some]
      rw [show w64 ((ent B j).Max - 1) = (ent B j).Max - 1 by rw [w64_id] <;> omega, show w64 (e.Max + ((ent B j).Max - 1)) = e.Max + ((ent B j).Max - 1) by rw [w64_id] <;> omega, e1]
    · have e1 : hiAt B b j = b := by unfold hiAt; rw [if_neg hlt]
      rw [decide_eq_false (by omega), cond_false, e1, show w64 (e.Max + b) = e.Max + b by rw [w64_id] <;> omega]
  unfold rank_between
  by_cases h0 : 0 < j
  · have e1 : loAt B j = (ent B (j - 1)).Min := by unfold loAt; rw [if_neg (by omega)]
    rw [decide_eq_true (by omega), cond_true, show w64 ((j : Int) - 1) = ((j - 1 : Nat) : Int) by rw [w64_id] <;> omega, ent_idx (show j - 1 < B.length by omega)]
    simp only [Option.bind_some]
    rw [hj1, ← e1, show w64 (e.Min + loAt B j) = e.Min + loAt B j by rw [w64_id] <;> omega]
  · have e1 : loAt B j = 0 := by unfold loAt; rw [if_pos (by omega)]
    rw [decide_eq_false (by omega), cond_false, hj1, e1, Int.add_zero]

theorem tk_prog {α : Type} {A B : List api_Entry} {p : Nat × Nat} (h1 : p.1 ≤ A.length) (h2 : p.2 ≤ B.length) (X Y : Option α) :
    (Option.bind (gd ((!((p.2 : Int) == (B.length : Int))) && (decide ((p.1 : Int) < (A.length : Int)))) (idx A (p.1 : Int))) fun x =>
    Option.bind (gd ((!((p.2 : Int) == (B.length : Int))) && (decide ((p.1 : Int) < (A.length : Int)))) (idx B (p.2 : Int))) fun y =>
    cond (((p.2 : Int) == (B.length : Int)) || ((decide ((p.1 : Int) < (A.length : Int))) && (decide (x.V ≤ y.V)))) X Y) = cond (tk A B p) X Y := by
  unfold tk
  by_cases hj : p.2 = B.length
  · rw [beq_iff_eq.2 (by omega : (p.2 : Int) = (B.length : Int)), decide_eq_true hj]
    rfl
  · rw [beq_eq_false_iff_ne.2 (by omega : (p.2 : Int) ≠ (B.length : Int)), decide_eq_false hj]
    by_cases hi : p.1 < A.length
    · rw [decide_eq_true (by omega : (p.1 : Int) < (A.length : Int)), decide_eq_true hi, ent_idx hi, ent_idx (show p.2 < B.length by omega)]
      rfl
    · rw [decide_eq_false (by omega : ¬ (p.1 : Int) < (A.length : Int)), decide_eq_false hi]
      rfl

theorem merge_loop (r s : api_Ranks) (hA : OkR r.Entries r.N) (hB : OkR s.Entries s.N) (la : r.Entries.length ≤ 1000) (lb : s.Entries.length ≤ 1000) :
    rank_Merge_l7 r s 0 0 [] = some (⟨r.N + s.N, meL r.Entries s.Entries r.N s.N (r.Entries.length + s.Entries.length)⟩, 0) := by
  have hm : (1048576 : Nat) ≤ maxLen := by rw [maxLen_eq]; omega
  have an0 := hA.n0
  have an1 := hA.n1
  have bn0 := hB.n0
  have bn1 := hB.n1
  unfold rank_Merge_l7
  obtain ⟨v, hv, hQ⟩ := loop_ind (f := fun t : Int × Int × List api_Entry => rank_Merge_l7s r s t.1 t.2.1 t.2.2)
    (fun t => ∃ k : Nat, k ≤ r.Entries.length + s.Entries.length ∧ t = (((ptM r.Entries s.Entries k).1 : Int), ((ptM r.Entries s.Entries k).2 : Int), meL r.Entries s.Entries r.N s.N k))
    (fun t => r.Entries.length + s.Entries.length - t.2.2.length) (fun v => v = (⟨r.N + s.N, meL r.Entries s.Entries r.N s.N (r.Entries.length + s.Entries.length)⟩, 0))
    (0, 0, []) ⟨0, Nat.zero_le _, rfl⟩ (by
      rintro _ ⟨k, hk, rfl⟩
      obtain ⟨i1, i2, i3⟩ := pt_in r.Entries s.Entries k hk
      simp only
      unfold rank_Merge_l7s
      rw [tk_prog i1 i2]
      by_cases hlt : k < r.Entries.length + s.Entries.length
      · left
        have hc : (decide (((ptM r.Entries s.Entries k).1 : Int) < (r.Entries.length : Int)) || decide (((ptM r.Entries s.Entries k).2 : Int) < (s.Entries.length : Int))) = true := by
          simp only [Bool.or_eq_true, decide_eq_true_eq]; omega
        have hsucc : meL r.Entries s.Entries r.N s.N (k + 1) = meL r.Entries s.Entries r.N s.N k ++ [me r.Entries s.Entries r.N s.N k] := meL_succ _ _ _ _ _
        have hpt : ptM r.Entries s.Entries (k + 1) = stepP r.Entries s.Entries (ptM r.Entries s.Entries k) := rfl
        unfold stepP at hpt
        rw [hc, cond_true]
        unfold rank_Merge_j10
        cases ht : tk r.Entries s.Entries (ptM r.Entries s.Entries k) with
        | true =>
          obtain ⟨t1, _⟩ := tk_left i1 i2 (by omega) ht
          have g := hA.rng _ t1
          rw [ht, cond_true] at hpt
          rw [cond_true, ent_idx t1]
          simp only [Option.bind_some]
          rw [between_at hB _ (by omega) (by omega) i2 (by omega)]
          simp only [Option.bind_some]
          rw [ck_pos (by rw [decide_eq_true_eq, meL_length, List.length_singleton]; omega), succ_nat t1 (by omega), ← me_left hlt ht, ← hsucc]
          refine ⟨_, rfl, ⟨k + 1, hlt, by rw [hpt]; rfl⟩, by show _ - (meL _ _ _ _ _).length < _ - (meL _ _ _ _ _).length; rw [meL_length, meL_length]; omega⟩
        | false =>
          obtain ⟨t1, _⟩ := tk_right i2 ht
          have g := hB.rng _ t1
          rw [ht, cond_false] at hpt
          rw [cond_false, ent_idx t1]
          simp only [Option.bind_some]
          rw [between_at hA _ (by omega) (by omega) i1 (by omega)]
          simp only [Option.bind_some]
          rw [ck_pos (by rw [decide_eq_true_eq, meL_length, List.length_singleton]; omega), succ_nat t1 (by omega), ← me_right hlt ht, ← hsucc]
          refine ⟨_, rfl, ⟨k + 1, hlt, by rw [hpt]; rfl⟩, by show _ - (meL _ _ _ _ _).length < _ - (meL _ _ _ _ _).length; rw [meL_length, meL_length]; omega⟩
      · right
        have hc : (decide (((ptM r.Entries s.Entries k).1 : Int) < (r.Entries.length : Int)) || decide (((ptM r.Entries s.Entries k).2 : Int) < (s.Entries.length : Int))) = false := by
          simp only [Bool.or_eq_false_iff, decide_eq_false_iff_not]; omega
        have hke : k = r.Entries.length + s.Entries.length := by omega
        rw [hc, cond_false, show w64 (r.N + s.N) = r.N + s.N by rw [w64_id] <;> omega, hke]
        exact ⟨_, rfl, rfl⟩)
  rw [hv, hQ]

theorem pt_left_nil {B : List api_Entry} : ∀ k, k ≤ B.length → ptM [] B k = (0, k) := by
  intro k
  induction k with
  | zero => intro _; rfl
  | succ k ih =>
    intro hk
    rw [show ptM [] B (k + 1) = stepP [] B (ptM [] B k) from rfl, ih (by omega)]
    have ht : tk [] B (0, k) = false := by
      unfold tk
      simp only [Bool.or_eq_false_iff, Bool.and_eq_false_iff, decide_eq_false_iff_not]
      exact ⟨by omega, .inl (by simp)⟩
    unfold stepP
    rw [ht]
    rfl

theorem pt_right_nil {A : List api_Entry} : ∀ k, k ≤ A.length → ptM A [] k = (k, 0) := by
  intro k
  induction k with
  | zero => intro _; rfl
  | succ k ih =>
    intro hk
    rw [show ptM A [] (k + 1) = stepP A [] (ptM A [] k) from rfl, ih (by omega)]
    have ht : tk A [] (k, 0) = true := by
      unfold tk
      simp only [Bool.or_eq_true, decide_eq_true_eq]
      exact .inl rfl
    unfold stepP
    rw [ht]
    rfl

theorem ent_ext {l m : List api_Entry} (h : l.length = m.length) (h2 : ∀ i, i < l.length → ent l i = ent m i) : l = m := by
  apply List.ext_getElem h
  intro i h3 h4
  rw [← ent_get h3, ← ent_get h4, h2 i h3]

theorem me_left_nil {B : List api_Entry} {b : Int} : meL [] B 0 b B.length = B := by
  refine ent_ext (meL_length _ _ _ _ _) fun i hi => ?_
  rw [meL_length] at hi
  rw [meL_ent _ _ _ _ hi]
  have hp := pt_left_nil i (Nat.le_of_lt hi)
  have ht : tk [] B (ptM [] B i) = false := by
    rw [hp]
    unfold tk
    simp only [Bool.or_eq_false_iff, Bool.and_eq_false_iff, decide_eq_false_iff_not]
    exact ⟨by omega, .inl (by simp)⟩
  rw [me_right (by simpa using hi) ht, hp]
  have e1 : loAt [] 0 = 0 := rfl
  have e2 : hiAt [] 0 0 = 0 := rfl
  simp only [e1, e2, Int.add_zero]

theorem me_right_nil {A : List api_Entry} {a : Int} : meL A [] a 0 A.length = A := by
  refine ent_ext (meL_length _ _ _ _ _) fun i hi => ?_
  rw [meL_length] at hi
  rw [meL_ent _ _ _ _ hi]
  have hp := pt_right_nil i (Nat.le_of_lt hi)
  have ht : tk A [] (ptM A [] i) = true := by
    rw [hp]
    unfold tk
    simp only [Bool.or_eq_true, decide_eq_true_eq]
    exact .inl rfl
  rw [me_left (by simpa using hi) ht, hp]
  have e1 : loAt [] 0 = 0 := rfl
  have e2 : hiAt [] 0 0 = 0 := rfl
  simp only [e1, e2, Int.add_zero]

/-- What the merge answers. -/
noncomputable def mergeR (r s : api_Ranks) : api_Ranks × Int :=
  cond (okB r && okB s) (cond (decide (r.N + s.N > 1099511627776)) (⟨0, []⟩, 5) (⟨r.N + s.N, meL r.Entries s.Entries r.N s.N (r.Entries.length + s.Entries.length)⟩, 0)) (⟨0, []⟩, 2)

theorem rank_merge (r s : api_Ranks) (la : r.Entries.length ≤ 1000) (lb : s.Entries.length ≤ 1000) : rank_Merge r s = some (mergeR r s) := by
  unfold rank_Merge mergeR
  rw [rank_validate r (by omega), rank_validate s (by omega)]
  simp only [Option.bind_some]
  cases hr : okB r with
  | false => rfl
  | true =>
    cases hs : okB s with
    | false => rfl
    | true =>
      have hA := (okB_iff r).1 hr
      have hB := (okB_iff s).1 hs
      have an0 := hA.n0
      have an1 := hA.n1
      have bn0 := hB.n0
      have bn1 := hB.n1
      simp only [cond_true, bne_self_eq_false, cond_false, Bool.and_self]
      rw [show w64 (1099511627776 - s.N) = 1099511627776 - s.N by rw [w64_id] <;> omega]
      by_cases hsum : r.N + s.N > 1099511627776
      · rw [decide_eq_true hsum, decide_eq_true (by omega)]
        rfl
      · rw [decide_eq_false hsum, decide_eq_false (by omega)]
        simp only [cond_false]
        by_cases ha : r.N = 0
        · have hnil : r.Entries = [] := List.eq_nil_of_length_eq_zero (hA.nil.2 ha)
          rw [beq_iff_eq.2 ha, cond_true]
          unfold rank_copied
          rw [ck_pos (by rw [decide_eq_true_eq]; simp only [List.length_nil]; omega), hnil, ha]
          simp only [Option.bind_some, List.nil_append, List.length_nil, Nat.zero_add, Int.zero_add, me_left_nil]
        · rw [beq_eq_false_iff_ne.2 ha, cond_false]
          by_cases hb : s.N = 0
          · have hnil : s.Entries = [] := List.eq_nil_of_length_eq_zero (hB.nil.2 hb)
            rw [beq_iff_eq.2 hb, cond_true]
            unfold rank_copied
            rw [ck_pos (by rw [decide_eq_true_eq]; simp only [List.length_nil]; omega), hnil, hb]
            simp only [Option.bind_some, List.nil_append, List.length_nil, Nat.add_zero, Int.add_zero, me_right_nil]
          · rw [beq_eq_false_iff_ne.2 hb, cond_false]
            exact merge_loop r s hA hB la lb

section widened
variable {s : api_Ranks} (hB : OkR s.Entries s.N) (lb : s.Entries.length ≤ 1000)
include hB lb

end widened

end Go.Win

