/- Pu: chapter 21: the summary of the values of two. -/
import Derived.Test.YtpclnmpmammlfaaPuAsks
namespace Go.Win
open Go.Vc Go.Dec

/-! ### The walk through two lists -/

/-- Whether the next entry is taken from the first list. -/
def tk (A B : List api_Entry) (p : Nat × Nat) : Bool := decide (p.2 = B.length) || (decide (p.1 < A.length) && decide ((ent A p.1).V ≤ (ent B p.2).V))

def stepP (A B : List api_Entry) (p : Nat × Nat) : Nat × Nat := cond (tk A B p) (p.1 + 1, p.2) (p.1, p.2 + 1)

def ptM (A B : List api_Entry) : Nat → Nat × Nat
  | 0 => (0, 0)
  | k + 1 => stepP A B (ptM A B k)

/-- The k-th entry of the merged summary. -/
def me (A B : List api_Entry) (a b : Int) (k : Nat) : api_Entry :=
  ⟨cond (tk A B (ptM A B k)) (ent A (ptM A B k).1).V (ent B (ptM A B k).2).V,
   loAt A (ptM A B (k + 1)).1 + loAt B (ptM A B (k + 1)).2, hiAt A a (ptM A B k).1 + hiAt B b (ptM A B k).2 + 1⟩

def meL (A B : List api_Entry) (a b : Int) (n : Nat) : List api_Entry := (List.range n).map (me A B a b)

theorem meL_length (A B : List api_Entry) (a b : Int) (n : Nat) : (meL A B a b n).length = n := by unfold meL; simp

theorem meL_succ (A B : List api_Entry) (a b : Int) (n : Nat) : meL A B a b (n + 1) = meL A B a b n ++ [me A B a b n] := by
  unfold meL
  rw [List.range_succ, List.map_append]
  rfl

theorem meL_ent (A B : List api_Entry) (a b : Int) {n i : Nat} (h : i < n) : ent (meL A B a b n) i = me A B a b i := by
  unfold ent meL
  rw [List.getD_eq_getElem?_getD, List.getElem?_map, List.getElem?_range h]
  rfl

theorem tk_left {A B : List api_Entry} {p : Nat × Nat} (h1 : p.1 ≤ A.length) (_ : p.2 ≤ B.length) (h3 : p.1 + p.2 < A.length + B.length) (h : tk A B p = true) :
    p.1 < A.length ∧ (p.2 < B.length → (ent A p.1).V ≤ (ent B p.2).V) := by
  unfold tk at h
  simp only [Bool.or_eq_true, Bool.and_eq_true, decide_eq_true_eq] at h
  rcases h with h | ⟨h4, h5⟩
  · exact ⟨by omega, fun g => by omega⟩
  · exact ⟨h4, fun _ => h5⟩

theorem tk_right {A B : List api_Entry} {p : Nat × Nat} (h2 : p.2 ≤ B.length) (h : tk A B p = false) :
    p.2 < B.length ∧ (p.1 < A.length → (ent B p.2).V < (ent A p.1).V) := by
  unfold tk at h
  simp only [Bool.or_eq_false_iff, Bool.and_eq_false_iff, decide_eq_false_iff_not] at h
  obtain ⟨h4, h5⟩ := h
  refine ⟨by omega, fun g => ?_⟩
  rcases h5 with h5 | h5
  · exact absurd g h5
  · omega

theorem pt_in (A B : List api_Entry) : ∀ k, k ≤ A.length + B.length → (ptM A B k).1 ≤ A.length ∧ (ptM A B k).2 ≤ B.length ∧ (ptM A B k).1 + (ptM A B k).2 = k := by
  intro k
  induction k with
  | zero => intro _; exact ⟨Nat.zero_le _, Nat.zero_le _, rfl⟩
  | succ k ih =>
    intro hk
    obtain ⟨i1, i2, i3⟩ := ih (by omega)
    show (stepP A B (ptM A B k)).1 ≤ _ ∧ (stepP A B (ptM A B k)).2 ≤ _ ∧ (stepP A B (ptM A B k)).1 + (stepP A B (ptM A B k)).2 = _
    unfold stepP
    cases ht : tk A B (ptM A B k) with
    | true =>
      have := (tk_left i1 i2 (by omega) ht).1
      simp only [cond_true]
      omega
    | false =>
      have := (tk_right i2 ht).1
      simp only [cond_false]
      omega

theorem pt_inv {A B : List api_Entry} {a b : Int} (hA : OkR A a) (hB : OkR B b) : ∀ k, k ≤ A.length + B.length →
    (∀ j, j < (ptM A B k).2 → (ptM A B k).1 < A.length → (ent B j).V < (ent A (ptM A B k).1).V) ∧
    (∀ i, i < (ptM A B k).1 → (ptM A B k).2 < B.length → (ent A i).V ≤ (ent B (ptM A B k).2).V) := by
  intro k
  induction k with
  | zero => intro _; exact ⟨fun j hj => absurd hj (Nat.not_lt_zero _), fun i hi => absurd hi (Nat.not_lt_zero _)⟩
  | succ k ih =>
    intro hk
    obtain ⟨i1, i2, i3⟩ := pt_in A B k (by omega)
    obtain ⟨j1, j2⟩ := ih (by omega)
    rw [show ptM A B (k + 1) = stepP A B (ptM A B k) from rfl]
    unfold stepP
    cases ht : tk A B (ptM A B k) with
    | true =>
      obtain ⟨t1, t2⟩ := tk_left i1 i2 (by omega) ht
      simp only [cond_true]
      refine ⟨fun j hj hl => ?_, fun i hi hl => ?_⟩
      · have g1 := j1 j hj t1
        have g2 := (hA.up (ptM A B k).1 hl).1
        omega
      · rcases Nat.lt_or_ge i (ptM A B k).1 with g | g
        · exact j2 i g hl
        · have : i = (ptM A B k).1 := by omega
          rw [this]
          exact t2 hl
    | false =>
      obtain ⟨t1, t2⟩ := tk_right i2 ht
      simp only [cond_false]
      refine ⟨fun j hj hl => ?_, fun i hi hl => ?_⟩
      · rcases Nat.lt_or_ge j (ptM A B k).2 with g | g
        · exact j1 j g hl
        · have : j = (ptM A B k).2 := by omega
          rw [this]
          exact t2 hl
      · have g1 := j2 i hi t1
        have g2 := (hB.up (ptM A B k).2 hl).1
        omega

theorem me_left {A B : List api_Entry} {a b : Int} {k : Nat} (hk : k < A.length + B.length) (ht : tk A B (ptM A B k) = true) :
    me A B a b k = ⟨(ent A (ptM A B k).1).V, (ent A (ptM A B k).1).Min + loAt B (ptM A B k).2, (ent A (ptM A B k).1).Max + hiAt B b (ptM A B k).2⟩ := by
  obtain ⟨i1, i2, i3⟩ := pt_in A B k (by omega)
  obtain ⟨t1, _⟩ := tk_left i1 i2 (by omega) ht
  unfold me
  rw [show ptM A B (k + 1) = stepP A B (ptM A B k) from rfl]
  unfold stepP
  rw [ht]
  simp only [cond_true]
  have e1 : loAt A ((ptM A B k).1 + 1) = (ent A (ptM A B k).1).Min := by unfold loAt; rw [if_neg (by omega), Nat.add_sub_cancel]
  have e2 : hiAt A a (ptM A B k).1 = (ent A (ptM A B k).1).Max - 1 := by unfold hiAt; rw [if_pos t1]
  rw [e1, e2]
  congr 1
  omega

theorem me_right {A B : List api_Entry} {a b : Int} {k : Nat} (hk : k < A.length + B.length) (ht : tk A B (ptM A B k) = false) :
    me A B a b k = ⟨(ent B (ptM A B k).2).V, (ent B (ptM A B k).2).Min + loAt A (ptM A B k).1, (ent B (ptM A B k).2).Max + hiAt A a (ptM A B k).1⟩ := by
  obtain ⟨i1, i2, i3⟩ := pt_in A B k (by omega)
  obtain ⟨t1, _⟩ := tk_right i2 ht
  unfold me
  rw [show ptM A B (k + 1) = stepP A B (ptM A B k) from rfl]
  unfold stepP
  rw [ht]
  simp only [cond_false]
  have e1 : loAt B ((ptM A B k).2 + 1) = (ent B (ptM A B k).2).Min := by unfold loAt; rw [if_neg (by omega), Nat.add_sub_cancel]
  have e2 : hiAt B b (ptM A B k).2 = (ent B (ptM A B k).2).Max - 1 := by unfold hiAt; rw [if_pos t1]
  rw [e1, e2]
  congr 1 <;> omega

/-! ### The gap -/

theorem split_gap {l : List api_Entry} {N : Int} (h : OkR l N) (h0 : 0 < l.length) {i : Nat} (hi : i ≤ l.length) : hiAt l N i - loAt l i ≤ gapR l - 1 := by
  have hg : gapR l = gapTo l l.length := by unfold gapR; rw [if_neg (by omega)]
  obtain ⟨g1, g2⟩ := gapTo_ge (l := l) l.length
  rw [hg]
  unfold hiAt loAt
  by_cases hi0 : i = 0
  · subst hi0
    rw [if_pos h0, if_pos rfl, h.first h0]
    omega
  · rw [if_neg hi0]
    by_cases hl : i < l.length
    · rw [if_pos hl]
      have := g2 i (by omega) hl
      omega
    · rw [if_neg hl]
      have hl2 := h.last h0
      rw [show i - 1 = l.length - 1 by omega, hl2]
      omega

theorem merge_gap {A B : List api_Entry} {a b : Int} (hA : OkR A a) (hB : OkR B b) (a0 : 0 < A.length) (b0 : 0 < B.length) :
    ∀ m, m ≤ A.length + B.length → gapTo (meL A B a b (A.length + B.length)) m ≤ gapR A + gapR B - 1 := by
  have gA : 1 ≤ gapR A := by unfold gapR; rw [if_neg (by omega)]; exact (gapTo_ge A.length).1
  have gB : 1 ≤ gapR B := by unfold gapR; rw [if_neg (by omega)]; exact (gapTo_ge B.length).1
  intro m
  induction m with
  | zero => intro _; show (1 : Int) ≤ _; omega
  | succ m ih =>
    intro hm
    have ih := ih (by omega)
    unfold gapTo
    by_cases h0 : m = 0
    · rw [if_pos h0]; omega
    · rw [if_neg h0, meL_ent A B a b (show m < _ by omega), meL_ent A B a b (show m - 1 < _ by omega)]
      obtain ⟨i1, i2, i3⟩ := pt_in A B m (by omega)
      have s1 := split_gap hA a0 i1
      have s2 := split_gap hB b0 i2
      have e1 : (me A B a b (m - 1)).Min = loAt A (ptM A B m).1 + loAt B (ptM A B m).2 := by
        unfold me
        rw [show m - 1 + 1 = m by omega]
      have e2 : (me A B a b m).Max = hiAt A a (ptM A B m).1 + hiAt B b (ptM A B m).2 + 1 := rfl
      rw [e1, e2]
      split <;> omega

/-! ### The program -/

theorem between_at {B : List api_Entry} {b : Int} (hB : OkR B b) (e : api_Entry) (h1 : 0 ≤ e.Min ∧ e.Min ≤ 1099511627776) (h2 : 0 ≤ e.Max ∧ e.Max ≤ 1099511627776) {j : Nat} (hj : j ≤ B.length) (hl : B.length ≤ 100000) :
    rank_between e B (j : Int) b = some ⟨e.V, e.Min + loAt B j, e.Max + hiAt B b j⟩ := by
  have n1 := hB.n1
  have n0 := hB.n0
  obtain ⟨o1, o2, o3⟩ := bounds_order hB hj
  have hj1 : ∀ m : Int, rank_between_j1 e B (j : Int) b m = some ⟨e.V, m, e.Max + hiAt B b j⟩ := by
    intro m
    unfold rank_between_j1
    by_cases hlt : j < B.length
    · have r := hB.rng j hlt
      have e1 : hiAt B b j = (ent B j).Max - 1 := by unfold hiAt; rw [if_pos hlt]
      rw [decide_eq_true (by omega), cond_true, ent_idx hlt]
      simp only [Option.bind_some]
      rw [show w64 ((ent B j).Max - 1) = (ent B j).Max - 1 by rw [w64_id] <;> omega, show w64 (e.Max + ((ent B j).Max - 1)) = e.Max + ((ent B j).Max - 1) by rw [w64_id] <;> omega, e1]
    · have e1 : hiAt B b j = b := by unfold hiAt; rw [if_neg hlt]
      rw [decide_eq_false (by omega), cond_false, e1, show w64 (e.Max + b) = e.Max + b by rw [w64_id] <;> omega]
  unfold rank_between
  by_cases h0 : 0 < j
  · have e1 : loAt B j = (ent B (j - 1)).Min := by unfold loAt; rw [if_neg (by omega)]
    rw [decide_eq_true (by omega), cond_true, show w64 ((j : Int) - 1) = ((j - 1 : Nat) : Int) by rw [w64_id] <;> omega, ent_idx (show j - 1 < B.length by omega)]
    simp only [Option.bind_some]
    rw [hj1, ← e1, show w64 (e.Min + loAt B j) = e.Min + loAt B j by rw [w64_id] <;> omega]
  · have e1 : loAt B j = 0 := by unfold loAt; rw [if_pos (by omega)]
    rw [decide_eq_false (by omega), cond_false, hj1, e1, Int.add_zero]

theorem tk_prog {α : Type} {A B : List api_Entry} {p : Nat × Nat} (h1 : p.1 ≤ A.length) (h2 : p.2 ≤ B.length) (X Y : Option α) :
    (Option.bind (gd ((!((p.2 : Int) == (B.length : Int))) && (decide ((p.1 : Int) < (A.length : Int)))) (idx A (p.1 : Int))) fun x =>
    Option.bind (gd ((!((p.2 : Int) == (B.length : Int))) && (decide ((p.1 : Int) < (A.length : Int)))) (idx B (p.2 : Int))) fun y =>
    cond (((p.2 : Int) == (B.length : Int)) || ((decide ((p.1 : Int) < (A.length : Int))) && (decide (x.V ≤ y.V)))) X Y) = cond (tk A B p) X Y := by
  unfold tk
  by_cases hj : p.2 = B.length
  · rw [beq_iff_eq.2 (by omega : (p.2 : Int) = (B.length : Int)), decide_eq_true hj]
    rfl
  · rw [beq_eq_false_iff_ne.2 (by omega : (p.2 : Int) ≠ (B.length : Int)), decide_eq_false hj]
    by_cases hi : p.1 < A.length
    · rw [decide_eq_true (by omega : (p.1 : Int) < (A.length : Int)), decide_eq_true hi, ent_idx hi, ent_idx (show p.2 < B.length by omega)]
      rfl
    · rw [decide_eq_false (by omega : ¬ (p.1 : Int) < (A.length : Int)), decide_eq_false hi]
      rfl

theorem merge_loop (r s : api_Ranks) (hA : OkR r.Entries r.N) (hB : OkR s.Entries s.N) (la : r.Entries.length ≤ 1000) (lb : s.Entries.length ≤ 1000) :
    rank_Merge_l7 r s 0 0 [] = some (⟨r.N + s.N, meL r.Entries s.Entries r.N s.N (r.Entries.length + s.Entries.length)⟩, 0) := by
  have hm : (100000 : Nat) ≤ maxLen := by rw [maxLen_eq]; omega
  have an0 := hA.n0
  have an1 := hA.n1
  have bn0 := hB.n0
  have bn1 := hB.n1
  unfold rank_Merge_l7
  obtain ⟨v, hv, hQ⟩ := loop_ind (f := fun t : Int × Int × List api_Entry => rank_Merge_l7s r s t.1 t.2.1 t.2.2)
    (fun t => ∃ k : Nat, k ≤ r.Entries.length + s.Entries.length ∧ t = (((ptM r.Entries s.Entries k).1 : Int), ((ptM r.Entries s.Entries k).2 : Int), meL r.Entries s.Entries r.N s.N k))
    (fun t => r.Entries.length + s.Entries.length - t.2.2.length) (fun v => v = (⟨r.N + s.N, meL r.Entries s.Entries r.N s.N (r.Entries.length + s.Entries.length)⟩, 0))
    (0, 0, []) ⟨0, Nat.zero_le _, rfl⟩ (by
      rintro _ ⟨k, hk, rfl⟩
      obtain ⟨i1, i2, i3⟩ := pt_in r.Entries s.Entries k hk
      simp only
      unfold rank_Merge_l7s
      rw [tk_prog i1 i2]
      by_cases hlt : k < r.Entries.length + s.Entries.length
      · left
        have hc : (decide (((ptM r.Entries s.Entries k).1 : Int) < (r.Entries.length : Int)) || decide (((ptM r.Entries s.Entries k).2 : Int) < (s.Entries.length : Int))) = true := by
          simp only [Bool.or_eq_true, decide_eq_true_eq]; omega
        have hsucc : meL r.Entries s.Entries r.N s.N (k + 1) = meL r.Entries s.Entries r.N s.N k ++ [me r.Entries s.Entries r.N s.N k] := meL_succ _ _ _ _ _
        have hpt : ptM r.Entries s.Entries (k + 1) = stepP r.Entries s.Entries (ptM r.Entries s.Entries k) := rfl
        unfold stepP at hpt
        rw [hc, cond_true]
        unfold rank_Merge_j10
        cases ht : tk r.Entries s.Entries (ptM r.Entries s.Entries k) with
        | true =>
          obtain ⟨t1, _⟩ := tk_left i1 i2 (by omega) ht
          have g := hA.rng _ t1
          rw [ht, cond_true] at hpt
          rw [cond_true, ent_idx t1]
          simp only [Option.bind_some]
          rw [between_at hB _ (by omega) (by omega) i2 (by omega)]
          simp only [Option.bind_some]
          rw [ck_pos (by rw [decide_eq_true_eq, meL_length, List.length_singleton]; omega), succ_nat t1 (by omega), ← me_left hlt ht, ← hsucc]
          refine ⟨_, rfl, ⟨k + 1, hlt, by rw [hpt]; rfl⟩, by show _ - (meL _ _ _ _ _).length < _ - (meL _ _ _ _ _).length; rw [meL_length, meL_length]; omega⟩
        | false =>
          obtain ⟨t1, _⟩ := tk_right i2 ht
          have g := hB.rng _ t1
          rw [ht, cond_false] at hpt
          rw [cond_false, ent_idx t1]
          simp only [Option.bind_some]
          rw [between_at hA _ (by omega) (by omega) i1 (by omega)]
          simp only [Option.bind_some]
          rw [ck_pos (by rw [decide_eq_true_eq, meL_length, List.length_singleton]; omega), succ_nat t1 (by omega), ← me_right hlt ht, ← hsucc]
          refine ⟨_, rfl, ⟨k + 1, hlt, by rw [hpt]; rfl⟩, by show _ - (meL _ _ _ _ _).length < _ - (meL _ _ _ _ _).length; rw [meL_length, meL_length]; omega⟩
      · right
        have hc : (decide (((ptM r.Entries s.Entries k).1 : Int) < (r.Entries.length : Int)) || decide (((ptM r.Entries s.Entries k).2 : Int) < (s.Entries.length : Int))) = false := by
          simp only [Bool.or_eq_false_iff, decide_eq_false_iff_not]; omega
        have hke : k = r.Entries.length + s.Entries.length := by omega
        rw [hc, cond_false, show w64 (r.N + s.N) = r.N + s.N by rw [w64_id] <;> omega, hke]
        exact ⟨_, rfl, rfl⟩)
  rw [hv, hQ]

theorem pt_left_nil {B : List api_Entry} : ∀ k, k ≤ B.length → ptM [] B k = (0, k) := by
  intro k
  induction k with
  | zero => intro _; rfl
  | succ k ih =>
    intro hk
    rw [show ptM [] B (k + 1) = stepP [] B (ptM [] B k) from rfl, ih (by omega)]
    have ht : tk [] B (0, k) = false := by
      unfold tk
      simp only [Bool.or_eq_false_iff, Bool.and_eq_false_iff, decide_eq_false_iff_not]
      exact ⟨by omega, .inl (by simp)⟩
    unfold stepP
    rw [ht]
    rfl

theorem pt_right_nil {A : List api_Entry} : ∀ k, k ≤ A.length → ptM A [] k = (k, 0) := by
  intro k
  induction k with
  | zero => intro _; rfl
  | succ k ih =>
    intro hk
    rw [show ptM A [] (k + 1) = stepP A [] (ptM A [] k) from rfl, ih (by omega)]
    have ht : tk A [] (k, 0) = true := by
      unfold tk
      simp only [Bool.or_eq_true, decide_eq_true_eq]
      exact .inl rfl
    unfold stepP
    rw [ht]
    rfl

theorem ent_ext {l m : List api_Entry} (h : l.length = m.length) (h2 : ∀ i, i < l.length → ent l i = ent m i) : l = m := by
  apply List.ext_getElem h
  intro i h3 h4
  rw [← ent_get h3, ← ent_get h4, h2 i h3]

theorem me_left_nil {B : List api_Entry} {b : Int} : meL [] B 0 b B.length = B := by
  refine ent_ext (meL_length _ _ _ _ _) fun i hi => ?_
  rw [meL_length] at hi
  rw [meL_ent _ _ _ _ hi]
  have hp := pt_left_nil i (Nat.le_of_lt hi)
  have ht : tk [] B (ptM [] B i) = false := by
    rw [hp]
    unfold tk
    simp only [Bool.or_eq_false_iff, Bool.and_eq_false_iff, decide_eq_false_iff_not]
    exact ⟨by omega, .inl (by simp)⟩
  rw [me_right (by simpa using hi) ht, hp]
  have e1 : loAt [] 0 = 0 := rfl
  have e2 : hiAt [] 0 0 = 0 := rfl
  simp only [e1, e2, Int.add_zero]

theorem me_right_nil {A : List api_Entry} {a : Int} : meL A [] a 0 A.length = A := by
  refine ent_ext (meL_length _ _ _ _ _) fun i hi => ?_
  rw [meL_length] at hi
  rw [meL_ent _ _ _ _ hi]
  have hp := pt_right_nil i (Nat.le_of_lt hi)
  have ht : tk A [] (ptM A [] i) = true := by
    rw [hp]
    unfold tk
    simp only [Bool.or_eq_true, decide_eq_true_eq]
    exact .inl rfl
  rw [me_left (by simpa using hi) ht, hp]
  have e1 : loAt [] 0 = 0 := rfl
  have e2 : hiAt [] 0 0 = 0 := rfl
  simp only [e1, e2, Int.add_zero]

/-- What the merge answers. -/
noncomputable def mergeR (r s : api_Ranks) : api_Ranks × Int :=
  cond (okB r && okB s) (cond (decide (r.N + s.N > 1099511627776)) (⟨0, []⟩, 5) (⟨r.N + s.N, meL r.Entries s.Entries r.N s.N (r.Entries.length + s.Entries.length)⟩, 0)) (⟨0, []⟩, 2)

theorem rank_merge (r s : api_Ranks) (la : r.Entries.length ≤ 1000) (lb : s.Entries.length ≤ 1000) : rank_Merge r s = some (mergeR r s) := by
  unfold rank_Merge mergeR
  rw [rank_validate r (by omega), rank_validate s (by omega)]
  simp only [Option.bind_some]
  cases hr : okB r with
  | false => rfl
  | true =>
    cases hs : okB s with
    | false => rfl
    | true =>
      have hA := (okB_iff r).1 hr
      have hB := (okB_iff s).1 hs
      have an0 := hA.n0
      have an1 := hA.n1
      have bn0 := hB.n0
      have bn1 := hB.n1
      simp only [cond_true, bne_self_eq_false, cond_false, Bool.and_self]
      rw [show w64 (1099511627776 - s.N) = 1099511627776 - s.N by rw [w64_id] <;> omega]
      by_cases hsum : r.N + s.N > 1099511627776
      · rw [decide_eq_true hsum, decide_eq_true (by omega)]
        rfl
      · rw [decide_eq_false hsum, decide_eq_false (by omega)]
        simp only [cond_false]
        by_cases ha : r.N = 0
        · have hnil : r.Entries = [] := List.eq_nil_of_length_eq_zero (hA.nil.2 ha)
          rw [beq_iff_eq.2 ha, cond_true]
          unfold rank_copied
          rw [ck_pos (by rw [decide_eq_true_eq]; simp only [List.length_nil]; omega), hnil, ha]
          simp only [Option.bind_some, List.nil_append, List.length_nil, Nat.zero_add, Int.zero_add, me_left_nil]
        · rw [beq_eq_false_iff_ne.2 ha, cond_false]
          by_cases hb : s.N = 0
          · have hnil : s.Entries = [] := List.eq_nil_of_length_eq_zero (hB.nil.2 hb)
            rw [beq_iff_eq.2 hb, cond_true]
            unfold rank_copied
            rw [ck_pos (by rw [decide_eq_true_eq]; simp only [List.length_nil]; omega), hnil, hb]
            simp only [Option.bind_some, List.nil_append, List.length_nil, Nat.add_zero, Int.add_zero, me_right_nil]
          · rw [beq_eq_false_iff_ne.2 hb, cond_false]
            exact merge_loop r s hA hB la lb

/-! ### The reference -/

/-- Whether an entry of the other list lies before e. -/
def bef (tie : Bool) (x e : api_Entry) : Bool := decide (x.V < e.V) || (!tie && x.V == e.V)

theorem bef_not (tie : Bool) (x e : api_Entry) : (decide (x.V > e.V) || (tie && x.V == e.V)) = !bef tie x e := by
  unfold bef
  rw [Bool.eq_iff_iff]
  cases tie
  · simp only [Bool.false_and, Bool.or_false, Bool.not_false, Bool.true_and, Bool.not_eq_true', Bool.or_eq_false_iff, decide_eq_true_eq, decide_eq_false_iff_not, beq_eq_false_iff_ne]
    omega
  · simp only [Bool.true_and, Bool.not_true, Bool.false_and, Bool.or_false, Bool.not_eq_true', Bool.or_eq_true, decide_eq_true_eq, decide_eq_false_iff_not, beq_iff_eq]
    omega

/-- The first m entries of B lie before e, the others do not. -/
def Cut (B : List api_Entry) (tie : Bool) (e : api_Entry) (m : Nat) : Prop :=
  m ≤ B.length ∧ (∀ j, j < m → bef tie (ent B j) e = true) ∧ ∀ j, m ≤ j → j < B.length → bef tie (ent B j) e = false

theorem cut_unique {B : List api_Entry} {tie : Bool} {e : api_Entry} {m n : Nat} (h : Cut B tie e m) (g : Cut B tie e n) : m = n := by
  obtain ⟨h1, h2, h3⟩ := h
  obtain ⟨g1, g2, g3⟩ := g
  rcases Nat.lt_trichotomy m n with c | c | c
  · have a1 := h3 m (Nat.le_refl _) (by omega)
    rw [g2 m c] at a1
    exact absurd a1 (by simp)
  · exact c
  · have a1 := g3 n (Nat.le_refl _) (by omega)
    rw [h2 n c] at a1
    exact absurd a1 (by simp)

theorem cut_ex {B : List api_Entry} {b : Int} (hB : OkR B b) (tie : Bool) (e : api_Entry) : ∃ m, Cut B tie e m := by
  have key : ∀ m, m ≤ B.length → (∃ k, k ≤ m ∧ (∀ j, j < k → bef tie (ent B j) e = true) ∧ ∀ j, k ≤ j → j < m → bef tie (ent B j) e = false) := by
    intro m
    induction m with
    | zero => intro _; exact ⟨0, Nat.le_refl _, fun i hi => by omega, fun i _ hi => by omega⟩
    | succ m ih =>
      intro hm
      obtain ⟨k, k1, k2, k3⟩ := ih (by omega)
      cases hv : bef tie (ent B m) e with
      | true =>
        have : k = m := by
          rcases Nat.lt_or_ge k m with hlt | hge
          · have g1 := k3 k (Nat.le_refl _) hlt
            have g2 := (up_lt hB hlt (by omega)).1
            unfold bef at g1 hv
            cases tie
            · simp only [Bool.not_false, Bool.true_and, Bool.or_eq_false_iff, Bool.or_eq_true, decide_eq_true_eq, decide_eq_false_iff_not, beq_iff_eq, beq_eq_false_iff_ne] at g1 hv
              omega
            · simp only [Bool.not_true, Bool.false_and, Bool.or_false, decide_eq_true_eq, decide_eq_false_iff_not] at g1 hv
              omega
          · omega
        subst this
        refine ⟨k + 1, Nat.le_refl _, fun i hi => ?_, fun i h1 h2 => by omega⟩
        rcases Nat.lt_or_ge i k with g | g
        · exact k2 i g
        · have : i = k := by omega
          subst this; exact hv
      | false =>
        refine ⟨k, by omega, k2, fun i h1 h2 => ?_⟩
        rcases Nat.lt_or_ge i m with g | g
        · exact k3 i h1 g
        · have : i = m := by omega
          subst this; exact hv
  exact key B.length (Nat.le_refl _)

/-- An entry, widened. -/
def wd (B : List api_Entry) (b : Int) (e : api_Entry) (m : Nat) : api_Entry := ⟨e.V, e.Min + loAt B m, e.Max + hiAt B b m⟩

section widened
variable {s : api_Ranks} (hB : OkR s.Entries s.N) (lb : s.Entries.length ≤ 1000)
include hB lb

theorem wid_hi (tie : Bool) {e : api_Entry} (h1 : 0 ≤ e.Min ∧ e.Min ≤ 1099511627776) (h2 : 0 ≤ e.Max ∧ e.Max ≤ 1099511627776) {m : Nat} (hc : Cut s.Entries tie e m) (w : List api_Entry) (i : Nat) (hw : w.length ≤ 1000) (hi : i ≤ 1000) :
    ref21_widened_l11 s tie e (loAt s.Entries m) w (i : Int) s.N (w64 ((s.Entries.length : Int) - 1)) = some (.inl (w ++ [wd s.Entries s.N e m], (i : Int) + 1)) := by
  obtain ⟨c1, c2, c3⟩ := hc
  have n0 := hB.n0
  have n1 := hB.n1
  obtain ⟨o1, o2, o3⟩ := bounds_order hB c1
  have e0 : w64 ((s.Entries.length : Int) - 1) = (s.Entries.length : Int) - 1 := by rw [w64_id] <;> omega
  rw [e0]
  unfold ref21_widened_l11
  obtain ⟨x, hx, hQ⟩ := loop_ind (f := fun t : Int × Int => ref21_widened_l11s s tie e (loAt s.Entries m) w (i : Int) t.1 t.2)
    (fun t => ∃ k : Nat, k ≤ s.Entries.length ∧ t = ((if k ≤ m then hiAt s.Entries s.N m else hiAt s.Entries s.N k), (k : Int) - 1))
    (fun t => (t.2 + 1).toNat) (fun x => x = .inl (w ++ [wd s.Entries s.N e m], (i : Int) + 1)) (s.N, (s.Entries.length : Int) - 1) ⟨s.Entries.length, Nat.le_refl _, by
      have : hiAt s.Entries s.N s.Entries.length = s.N := by unfold hiAt; rw [if_neg (by omega)]
      rw [this]
      by_cases hle : s.Entries.length ≤ m
      · have : m = s.Entries.length := by omega
        subst this
        rw [if_pos hle, this]
      · rw [if_neg hle]⟩ (by
      rintro _ ⟨k, hk, rfl⟩
      simp only
      unfold ref21_widened_l11s
      cases k with
      | zero =>
        right
        rw [decide_eq_false (by omega), cond_false, if_pos (Nat.zero_le _), ck_pos (by rw [decide_eq_true_eq]; simp only [List.length_singleton]; omega), show w64 ((i : Int) + 1) = (i : Int) + 1 by rw [w64_id] <;> omega,
          show w64 (e.Min + loAt s.Entries m) = e.Min + loAt s.Entries m by rw [w64_id] <;> omega, show w64 (e.Max + hiAt s.Entries s.N m) = e.Max + hiAt s.Entries s.N m by rw [w64_id] <;> omega]
        exact ⟨_, rfl, rfl⟩
      | succ k =>
        left
        have hlt : k < s.Entries.length := by omega
        have e1 : ((k + 1 : Nat) : Int) - 1 = (k : Int) := by omega
        have e2 : w64 ((k : Int) - 1) = (k : Int) - 1 := by rw [w64_id] <;> omega
        rw [e1, decide_eq_true (by omega : (k : Int) ≥ 0), cond_true, ent_idx hlt, e2]
        simp only [Option.bind_some]
        rw [bef_not]
        by_cases hkm : k < m
        · rw [c2 k hkm, Bool.not_true, cond_false, if_pos (by omega)]
          exact ⟨_, rfl, ⟨k, by omega, by rw [if_pos (by omega)]⟩, by show ((k : Int) - 1 + 1).toNat < ((k : Int) + 1).toNat; omega⟩
        · rw [c3 k (by omega) hlt, Bool.not_false, cond_true]
          have hr := hB.rng k hlt
          rw [show w64 ((ent s.Entries k).Max - 1) = (ent s.Entries k).Max - 1 by rw [w64_id] <;> omega]
          refine ⟨_, rfl, ⟨k, by omega, ?_⟩, by show ((k : Int) - 1 + 1).toNat < ((k : Int) + 1).toNat; omega⟩
          have hh : hiAt s.Entries s.N k = (ent s.Entries k).Max - 1 := by unfold hiAt; rw [if_pos hlt]
          by_cases hle : k ≤ m
          · have : k = m := by omega
            subst this
            rw [if_pos hle, hh]
          · rw [if_neg hle, hh])
  rw [hx, hQ]

theorem wid_lo (tie : Bool) {e : api_Entry} (h1 : 0 ≤ e.Min ∧ e.Min ≤ 1099511627776) (h2 : 0 ≤ e.Max ∧ e.Max ≤ 1099511627776) {m : Nat} (hc : Cut s.Entries tie e m) (w : List api_Entry) (i : Nat) (hw : w.length ≤ 1000) (hi : i ≤ 1000) :
    ref21_widened_l6 s tie e w (i : Int) 0 0 = some (.inl (w ++ [wd s.Entries s.N e m], (i : Int) + 1)) := by
  have hm : s.Entries.length ≤ maxLen := by rw [maxLen_eq]; omega
  have hhi := wid_hi hB lb tie h1 h2 hc w i hw hi
  obtain ⟨c1, c2, c3⟩ := hc
  unfold ref21_widened_l6
  obtain ⟨x, hx, hQ⟩ := loop_ind (f := fun t : Int × Int => ref21_widened_l6s s tie e w (i : Int) t.1 t.2)
    (fun t => ∃ k : Nat, k ≤ s.Entries.length ∧ t = ((if k ≤ m then loAt s.Entries k else loAt s.Entries m), (k : Int)))
    (fun t => s.Entries.length - t.2.toNat) (fun x => x = .inl (w ++ [wd s.Entries s.N e m], (i : Int) + 1)) (0, 0) ⟨0, Nat.zero_le _, by rw [if_pos (Nat.zero_le _)]; rfl⟩ (by
      rintro _ ⟨k, hk, rfl⟩
      simp only
      unfold ref21_widened_l6s
      by_cases hlt : k < s.Entries.length
      · left
        rw [decide_eq_true (by omega), cond_true, ent_idx hlt, succ_nat hlt hm]
        simp only [Option.bind_some]
        rw [show (decide ((ent s.Entries k).V < e.V) || (!tie) && (ent s.Entries k).V == e.V) = bef tie (ent s.Entries k) e from rfl]
        by_cases hkm : k < m
        · rw [c2 k hkm, cond_true]
          refine ⟨_, rfl, ⟨k + 1, hlt, ?_⟩, by show s.Entries.length - ((k : Int) + 1).toNat < s.Entries.length - (k : Int).toNat; omega⟩
          rw [if_pos (by omega)]
          unfold loAt
          rw [if_neg (by omega), Nat.add_sub_cancel]
          rfl
        · rw [c3 k (by omega) hlt, cond_false]
          refine ⟨_, rfl, ⟨k + 1, hlt, ?_⟩, by show s.Entries.length - ((k : Int) + 1).toNat < s.Entries.length - (k : Int).toNat; omega⟩
          rw [if_neg (by omega : ¬ k + 1 ≤ m)]
          by_cases hle : k ≤ m
          · have : k = m := by omega
            subst this
            rw [if_pos hle]
            rfl
          · rw [if_neg hle]
            rfl
      · right
        have hlo : (if k ≤ m then loAt s.Entries k else loAt s.Entries m) = loAt s.Entries m := by
          by_cases hle : k ≤ m
          · have : k = m := by omega
            subst this
            rw [if_pos hle]
          · rw [if_neg hle]
        rw [decide_eq_false (by omega), cond_false, hlo, hhi]
        exact ⟨_, rfl, rfl⟩)
  rw [hx, hQ]

/-- All entries of a list, widened by the other one. -/
def Wid (A B : List api_Entry) (b : Int) (tie : Bool) (w : List api_Entry) : Prop :=
  w.length = A.length ∧ ∀ i, i < A.length → ∃ m, Cut B tie (ent A i) m ∧ ent w i = wd B b (ent A i) m

theorem widened_eq {r : api_Ranks} (hA : OkR r.Entries r.N) (la : r.Entries.length ≤ 1000) (tie : Bool) : ∃ w, ref21_widened r s tie = some w ∧ Wid r.Entries s.Entries s.N tie w := by
  have hm : r.Entries.length ≤ maxLen := by rw [maxLen_eq]; omega
  have an1 := hA.n1
  unfold ref21_widened ref21_widened_l2
  obtain ⟨x, hx, hQ⟩ := loop_ind (f := fun t : List api_Entry × Int => ref21_widened_l2s r s tie t.1 t.2)
    (fun t => ∃ (i : Nat) (w : List api_Entry), i ≤ r.Entries.length ∧ t = (w, (i : Int)) ∧ w.length = i ∧ ∀ k, k < i → ∃ m, Cut s.Entries tie (ent r.Entries k) m ∧ ent w k = wd s.Entries s.N (ent r.Entries k) m)
    (fun t => r.Entries.length - t.2.toNat) (fun w => Wid r.Entries s.Entries s.N tie w) ([], 0) ⟨0, [], Nat.zero_le _, rfl, rfl, fun k hk => by omega⟩ (by
      rintro _ ⟨i, w, hi, rfl, hw, hall⟩
      simp only
      unfold ref21_widened_l2s
      by_cases hlt : i < r.Entries.length
      · left
        have g := hA.rng i hlt
        obtain ⟨m, hc⟩ := cut_ex hB tie (ent r.Entries i)
        rw [decide_eq_true (by omega), cond_true, ent_idx hlt]
        simp only [Option.bind_some]
        rw [wid_lo hB lb tie (by omega) (by omega) hc w i (by omega) (by omega)]
        refine ⟨_, rfl, ⟨i + 1, _, hlt, rfl, by simp [hw], fun k hk => ?_⟩, by show r.Entries.length - ((i : Int) + 1).toNat < r.Entries.length - (i : Int).toNat; omega⟩
        rcases Nat.lt_or_ge k i with hki | hki
        · obtain ⟨m', hc', he⟩ := hall k hki
          refine ⟨m', hc', ?_⟩
          rw [← he]
          unfold ent
          rw [List.getD_eq_getElem?_getD, List.getElem?_append_left (by omega), ← List.getD_eq_getElem?_getD]
        · have : k = i := by omega
          subst this
          refine ⟨m, hc, ?_⟩
          unfold ent
          rw [List.getD_eq_getElem?_getD, List.getElem?_append_right (by omega), hw, Nat.sub_self]
          rfl
      · right
        have : i = r.Entries.length := by omega
        subst this
        rw [decide_eq_false (by omega), cond_false]
        exact ⟨_, rfl, hw, hall⟩)
  exact ⟨x, hx, hQ⟩

end widened

theorem drop_idx0 {w : List api_Entry} {i : Nat} (h : i < w.length) : idx (w.drop i) 0 = some (ent w i) := by
  rw [show (0 : Int) = ((0 : Nat) : Int) from rfl, idx_nat, List.getElem?_drop, Nat.add_zero, ent_some h]

theorem tk_ref {α : Type} {A B wA wB : List api_Entry} {p : Nat × Nat} (hA : wA.length = A.length) (hB : wB.length = B.length) (vA : ∀ i, i < A.length → (ent wA i).V = (ent A i).V) (vB : ∀ i, i < B.length → (ent wB i).V = (ent B i).V)
    (h1 : p.1 ≤ A.length) (h2 : p.2 ≤ B.length) (X Y : Option α) :
    (Option.bind (gd ((!(((wB.drop p.2).length : Int) == (0:Int))) && (decide (((wA.drop p.1).length : Int) > (0:Int)))) (idx (wA.drop p.1) (0:Int))) fun x =>
    Option.bind (gd ((!(((wB.drop p.2).length : Int) == (0:Int))) && (decide (((wA.drop p.1).length : Int) > (0:Int)))) (idx (wB.drop p.2) (0:Int))) fun y =>
    cond ((((wB.drop p.2).length : Int) == (0:Int)) || ((decide (((wA.drop p.1).length : Int) > (0:Int))) && (decide (x.V ≤ y.V)))) X Y) = cond (tk A B p) X Y := by
  rw [List.length_drop, List.length_drop, hA, hB]
  unfold tk
  by_cases hj : p.2 = B.length
  · rw [beq_iff_eq.2 (by omega : ((B.length - p.2 : Nat) : Int) = 0), decide_eq_true hj]
    rfl
  · rw [beq_eq_false_iff_ne.2 (by omega : ((B.length - p.2 : Nat) : Int) ≠ 0), decide_eq_false hj]
    by_cases hi : p.1 < A.length
    · rw [decide_eq_true (by omega : ((A.length - p.1 : Nat) : Int) > 0), decide_eq_true hi, drop_idx0 (by omega), drop_idx0 (by omega)]
      simp only [Bool.not_false, Bool.and_self, gd_true, Option.bind_some, Bool.false_or, Bool.true_and, vA _ hi, vB p.2 (by omega)]
    · rw [decide_eq_false (by omega : ¬ ((A.length - p.1 : Nat) : Int) > 0), decide_eq_false hi]
      rfl

theorem ref_merge_loop (r s : api_Ranks) (hA : OkR r.Entries r.N) (hB : OkR s.Entries s.N) (la : r.Entries.length ≤ 1000) (lb : s.Entries.length ≤ 1000) {wA wB : List api_Entry}
    (hwA : Wid r.Entries s.Entries s.N true wA) (hwB : Wid s.Entries r.Entries r.N false wB) :
    ref21_Merge_l5 r s wA wB [] = some (⟨r.N + s.N, meL r.Entries s.Entries r.N s.N (r.Entries.length + s.Entries.length)⟩, 0) := by
  have an0 := hA.n0
  have an1 := hA.n1
  have bn0 := hB.n0
  have bn1 := hB.n1
  obtain ⟨lA, pA⟩ := hwA
  obtain ⟨lB, pB⟩ := hwB
  have vA : ∀ i, i < r.Entries.length → (ent wA i).V = (ent r.Entries i).V := fun i hi => by obtain ⟨m, _, h⟩ := pA i hi; rw [h]; rfl
  have vB : ∀ i, i < s.Entries.length → (ent wB i).V = (ent s.Entries i).V := fun i hi => by obtain ⟨m, _, h⟩ := pB i hi; rw [h]; rfl
  unfold ref21_Merge_l5
  obtain ⟨v, hv, hQ⟩ := loop_ind (f := fun t : List api_Entry × List api_Entry × List api_Entry => ref21_Merge_l5s r s t.1 t.2.1 t.2.2)
    (fun t => ∃ k : Nat, k ≤ r.Entries.length + s.Entries.length ∧ t = (wA.drop (ptM r.Entries s.Entries k).1, wB.drop (ptM r.Entries s.Entries k).2, meL r.Entries s.Entries r.N s.N k))
    (fun t => r.Entries.length + s.Entries.length - t.2.2.length) (fun v => v = (⟨r.N + s.N, meL r.Entries s.Entries r.N s.N (r.Entries.length + s.Entries.length)⟩, 0))
    (wA, wB, []) ⟨0, Nat.zero_le _, rfl⟩ (by
      rintro _ ⟨k, hk, rfl⟩
      obtain ⟨i1, i2, i3⟩ := pt_in r.Entries s.Entries k hk
      obtain ⟨j1, j2⟩ := pt_inv hA hB k hk
      simp only
      unfold ref21_Merge_l5s
      rw [tk_ref lA lB vA vB i1 i2]
      have hlen : w64 (((wA.drop (ptM r.Entries s.Entries k).1).length : Int) + ((wB.drop (ptM r.Entries s.Entries k).2).length : Int)) = ((r.Entries.length + s.Entries.length - k : Nat) : Int) := by
        rw [List.length_drop, List.length_drop, lA, lB, w64_id] <;> omega
      rw [hlen]
      by_cases hlt : k < r.Entries.length + s.Entries.length
      · left
        have hsucc : meL r.Entries s.Entries r.N s.N (k + 1) = meL r.Entries s.Entries r.N s.N k ++ [me r.Entries s.Entries r.N s.N k] := meL_succ _ _ _ _ _
        have hpt : ptM r.Entries s.Entries (k + 1) = stepP r.Entries s.Entries (ptM r.Entries s.Entries k) := rfl
        unfold stepP at hpt
        rw [decide_eq_true (by omega), cond_true]
        cases ht : tk r.Entries s.Entries (ptM r.Entries s.Entries k) with
        | true =>
          obtain ⟨t1, t2⟩ := tk_left i1 i2 (by omega) ht
          rw [ht, cond_true] at hpt
          obtain ⟨m, hc, he⟩ := pA _ t1
          have hcut : Cut s.Entries true (ent r.Entries (ptM r.Entries s.Entries k).1) (ptM r.Entries s.Entries k).2 := by
            refine ⟨i2, fun j hj => ?_, fun j hj hl => ?_⟩
            · unfold bef
              rw [decide_eq_true (j1 j hj t1)]; rfl
            · unfold bef
              have g1 := t2 (by omega)
              have g2 : (ent s.Entries (ptM r.Entries s.Entries k).2).V ≤ (ent s.Entries j).V := by
                rcases Nat.eq_or_lt_of_le hj with g | g
                · rw [← g]; exact Int.le_refl _
                · exact (up_lt hB g hl).1
              rw [decide_eq_false (by omega)]; rfl
          have hmm := cut_unique hc hcut
          subst hmm
          have hee : ent wA (ptM r.Entries s.Entries k).1 = me r.Entries s.Entries r.N s.N k := by rw [he, me_left hlt ht]; rfl
          rw [cond_true, drop_idx0 (by omega), hee]
          simp only [Option.bind_some]
          rw [ck_pos (by rw [decide_eq_true_eq, meL_length, List.length_singleton]; omega), ck_pos (by rw [decide_eq_true_eq, List.length_drop]; omega), ← hsucc]
          refine ⟨_, rfl, ⟨k + 1, hlt, ?_⟩, by show _ - (meL _ _ _ _ _).length < _ - (meL _ _ _ _ _).length; rw [meL_length, meL_length]; omega⟩
          rw [hpt]
          show ((wA.drop _).drop 1, _, _) = _
          rw [List.drop_drop]
        | false =>
          obtain ⟨t1, t2⟩ := tk_right i2 ht
          rw [ht, cond_false] at hpt
          obtain ⟨m, hc, he⟩ := pB _ t1
          have hcut : Cut r.Entries false (ent s.Entries (ptM r.Entries s.Entries k).2) (ptM r.Entries s.Entries k).1 := by
            refine ⟨i1, fun j hj => ?_, fun j hj hl => ?_⟩
            · unfold bef
              have g := j2 j hj t1
              rcases Int.lt_or_eq_of_le g with g | g
              · rw [decide_eq_true g]; rfl
              · rw [beq_iff_eq.2 g, Bool.not_false, Bool.true_and, Bool.or_true]
            · unfold bef
              have g1 := t2 (by omega)
              have g2 : (ent r.Entries (ptM r.Entries s.Entries k).1).V ≤ (ent r.Entries j).V := by
                rcases Nat.eq_or_lt_of_le hj with g | g
                · rw [← g]; exact Int.le_refl _
                · exact (up_lt hA g hl).1
              rw [decide_eq_false (by omega), beq_eq_false_iff_ne.2 (by omega)]; rfl
          have hmm := cut_unique hc hcut
          subst hmm
          have hee : ent wB (ptM r.Entries s.Entries k).2 = me r.Entries s.Entries r.N s.N k := by rw [he, me_right hlt ht]; rfl
          rw [cond_false, drop_idx0 (by omega), hee]
          simp only [Option.bind_some]
          rw [ck_pos (by rw [decide_eq_true_eq, meL_length, List.length_singleton]; omega), ck_pos (by rw [decide_eq_true_eq, List.length_drop]; omega), ← hsucc]
          refine ⟨_, rfl, ⟨k + 1, hlt, ?_⟩, by show _ - (meL _ _ _ _ _).length < _ - (meL _ _ _ _ _).length; rw [meL_length, meL_length]; omega⟩
          rw [hpt]
          show (_, (wB.drop _).drop 1, _) = _
          rw [List.drop_drop]
      · right
        have hke : k = r.Entries.length + s.Entries.length := by omega
        rw [decide_eq_false (by omega), cond_false, show w64 (r.N + s.N) = r.N + s.N by rw [w64_id] <;> omega, hke]
        exact ⟨_, rfl, rfl⟩)
  rw [hv, hQ]

theorem ref_merge (r s : api_Ranks) (la : r.Entries.length ≤ 1000) (lb : s.Entries.length ≤ 1000) : ref21_Merge r s = some (mergeR r s) := by
  unfold ref21_Merge mergeR
  rw [ref_validate r (by omega), ref_validate s (by omega)]
  simp only [Option.bind_some]
  cases hr : okB r with
  | false => rfl
  | true =>
    cases hs : okB s with
    | false => rfl
    | true =>
      have hA := (okB_iff r).1 hr
      have hB := (okB_iff s).1 hs
      have an0 := hA.n0
      have an1 := hA.n1
      have bn0 := hB.n0
      have bn1 := hB.n1
      simp only [cond_true, bne_self_eq_false, cond_false, Bool.and_self]
      rw [show w64 (r.N + s.N) = r.N + s.N by rw [w64_id] <;> omega]
      by_cases hsum : r.N + s.N > 1099511627776
      · rw [decide_eq_true hsum]
        rfl
      · rw [decide_eq_false hsum]
        simp only [cond_false]
        obtain ⟨wA, a1, a2⟩ := widened_eq hB lb hA la true
        obtain ⟨wB, b1, b2⟩ := widened_eq hA la hB lb false
        rw [a1, b1]
        simp only [Option.bind_some]
        exact ref_merge_loop r s hA hB la lb a2 b2

/-! ### The statement RankMerges -/

theorem law21_RankMerges_true (p0 p1 : api_Ranks) (_ : wf_api_Ranks p0) (_ : wf_api_Ranks p1) : law21_RankMerges p0 p1 = some true := by
  unfold law21_RankMerges
  rw [few_spec21, few_spec21, law21_awake_true]
  simp only
  by_cases ha : p0.Entries.length ≤ 150
  · by_cases hb : p1.Entries.length ≤ 150
    · rw [decide_eq_true ha, decide_eq_true hb, rank_merge p0 p1 (by omega) (by omega), ref_merge p0 p1 (by omega) (by omega)]
      simp only [Bool.not_true, Bool.or_self, cond_false, Option.bind_some]
      have hlen : (mergeR p0 p1).1.Entries.length ≤ 300 := by
        unfold mergeR
        cases okB p0 && okB p1 with
        | false => exact Nat.zero_le _
        | true =>
          cases decide (p0.N + p1.N > 1099511627776) with
          | true => exact Nat.zero_le _
          | false =>
            show (meL _ _ _ _ _).length ≤ 300
            rw [meL_length]; omega
      rw [same_refl _ (by omega)]
      simp only [Option.bind_some, Bool.not_true, bne_self_eq_false, Bool.or_self, cond_false]
      rw [rank_gap _ (by omega), rank_gap p0 (by omega), rank_gap p1 (by omega)]
      cases hc : (((mergeR p0 p1).2 != (0:Int)) || (p0.N == (0:Int))) || (p1.N == (0:Int)) with
      | true => simp
      | false =>
        simp only [Bool.or_eq_false_iff, bne_eq_false_iff_eq, beq_eq_false_iff_ne] at hc
        obtain ⟨⟨c1, c2⟩, c3⟩ := hc
        have hok : okB p0 = true ∧ okB p1 = true ∧ mergeR p0 p1 = (⟨p0.N + p1.N, meL p0.Entries p1.Entries p0.N p1.N (p0.Entries.length + p1.Entries.length)⟩, 0) := by
          unfold mergeR at c1 ⊢
          cases h0 : okB p0 with
          | false => rw [h0] at c1; exact absurd c1 (by simp)
          | true =>
            cases h1 : okB p1 with
            | false => rw [h0, h1] at c1; exact absurd c1 (by simp)
            | true =>
              rw [h0, h1] at c1
              cases h2 : decide (p0.N + p1.N > 1099511627776) with
              | true => rw [h2] at c1; exact absurd c1 (by simp)
              | false => exact ⟨rfl, rfl, rfl⟩
        obtain ⟨o1, o2, o3⟩ := hok
        have hA := (okB_iff p0).1 o1
        have hB := (okB_iff p1).1 o2
        have a0 : 0 < p0.Entries.length := Nat.pos_of_ne_zero fun h => c2 (hA.nil.1 h)
        have b0 : 0 < p1.Entries.length := Nat.pos_of_ne_zero fun h => c3 (hB.nil.1 h)
        have gA : 1 ≤ gapR p0.Entries ∧ gapR p0.Entries ≤ 1099511627776 := by
          have := gapTo_le hA a0 _ (Nat.le_refl _)
          have := hA.n1
          unfold gapR; rw [if_neg (by omega)]; exact ⟨(gapTo_ge p0.Entries.length).1, by omega⟩
        have gB : 1 ≤ gapR p1.Entries ∧ gapR p1.Entries ≤ 1099511627776 := by
          have := gapTo_le hB b0 _ (Nat.le_refl _)
          have := hB.n1
          unfold gapR; rw [if_neg (by omega)]; exact ⟨(gapTo_ge p1.Entries.length).1, by omega⟩
        have hG : 0 ≤ cond (okB (mergeR p0 p1).1) (gapR (mergeR p0 p1).1.Entries) 0 ∧ cond (okB (mergeR p0 p1).1) (gapR (mergeR p0 p1).1.Entries) 0 ≤ gapR p0.Entries + gapR p1.Entries - 1 := by
          rw [o3]
          cases okB (⟨p0.N + p1.N, meL p0.Entries p1.Entries p0.N p1.N (p0.Entries.length + p1.Entries.length)⟩ : api_Ranks) with
          | false => simp only [cond_false]; omega
          | true =>
            simp only [cond_true]
            unfold gapR
            simp only [meL_length]
            rw [if_neg (by omega)]
            have := merge_gap hA hB a0 b0 _ (Nat.le_refl _)
            have g1 : (1 : Int) ≤ gapTo (meL p0.Entries p1.Entries p0.N p1.N (p0.Entries.length + p1.Entries.length)) (p0.Entries.length + p1.Entries.length) := (gapTo_ge _).1
            unfold gapR at this
            omega
        generalize cond (okB (mergeR p0 p1).1) (gapR (mergeR p0 p1).1.Entries) 0 = G at *
        rw [o1, o2]
        simp only [cond_true, Bool.not_false, gd_true, Option.bind_some, Bool.false_or]
        have e1 : w64 (G - 1) = G - 1 := by rw [w64_id] <;> omega
        have e2 : w64 (gapR p0.Entries - 1) = gapR p0.Entries - 1 := by rw [w64_id] <;> omega
        have e3 : w64 (gapR p0.Entries - 1 + gapR p1.Entries) = gapR p0.Entries - 1 + gapR p1.Entries := by rw [w64_id] <;> omega
        have e4 : w64 (gapR p0.Entries - 1 + gapR p1.Entries - 1) = gapR p0.Entries - 1 + gapR p1.Entries - 1 := by rw [w64_id] <;> omega
        rw [e1, e2, e3, e4, decide_eq_true (by omega)]
        rfl
    · rw [decide_eq_false hb]
      simp
  · rw [decide_eq_false ha]
    simp

end Go.Win
