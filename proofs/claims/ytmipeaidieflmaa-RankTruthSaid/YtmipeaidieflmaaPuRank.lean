/- Pu: chapter 21: summaries of ranks: which are valid; their gaps. -/
import Derived.Test.YtmipeaidieflmaaPuSums2
set_option linter.unusedVariables false
set_option linter.unusedSimpArgs false
set_option linter.unnecessarySimpa false
set_option linter.unusedSectionVars false
namespace Go.Win
open Go.Vc Go.Dec

/-- An entry. -/
def ent (l : List api_Entry) (i : Nat) : api_Entry := l.getD i default

theorem ent_some {l : List api_Entry} {i : Nat} (h : i < l.length) : l[i]? = some (ent l i) := by
  unfold ent
  rw [get_some h]
  simp [List.getD, get_some h]

theorem ent_get {l : List api_Entry} {i : Nat} (h : i < l.length) : ent l i = l[i] := by
  have := ent_some h
  rw [get_some h] at this
  exact (Option.some.inj this).symm

theorem ent_idx {l : List api_Entry} {i : Nat} (h : i < l.length) : idx l (i : Int) = some (ent l i) := by
  rw [idx_nat, ent_some h]

def badE (l : List api_Entry) (N : Int) (i : Nat) : Bool :=
  ((decide ((ent l i).Min < 1) || decide ((ent l i).Min > (ent l i).Max)) || decide ((ent l i).Max > N)) ||
  (decide (0 < i) && ((decide ((ent l (i - 1)).V > (ent l i).V) || decide ((ent l (i - 1)).Min ≥ (ent l i).Min)) || decide ((ent l (i - 1)).Max ≥ (ent l i).Max)))

def badEnds (l : List api_Entry) (N : Int) : Bool := decide (0 < l.length) && ((ent l 0).Max != 1 || (ent l (l.length - 1)).Min != N)

def headOk (r : api_Ranks) : Bool := !(((decide (r.N < 0)) || (decide (r.N > 1099511627776))) || (!(((r.Entries.length : Int) == 0) == (r.N == 0))))

/-- The summary is in order. -/
def okB (r : api_Ranks) : Bool := headOk r && !((List.range r.Entries.length).any (badE r.Entries r.N) || badEnds r.Entries r.N)

theorem predN {i n : Nat} (h0 : 0 < i) (h : i ≤ n) (hm : n ≤ maxLen) : w64 ((i : Int) - 1) = ((i - 1 : Nat) : Int) := by
  rw [maxLen_eq] at hm
  rw [w64_id] <;> omega

theorem rank_validate (r : api_Ranks) (hl : r.Entries.length ≤ 1048576) : rank_Validate r = some (cond (okB r) 0 2) := by
  have hm : r.Entries.length ≤ maxLen := by rw [maxLen_eq]; omega
  unfold rank_Validate
  cases hh : headOk r with
  | false =>
    have h1 : (((decide (r.N < 0)) || (decide (r.N > 1099511627776))) || (!(((r.Entries.length : Int) == 0) == (r.N == 0)))) = true := nF (by unfold headOk at hh; exact hh)
    rw [h1, cond_true]
    unfold okB
    rw [hh]
    rfl
  | true =>
    have h1 : (((decide (r.N < 0)) || (decide (r.N > 1099511627776))) || (!(((r.Entries.length : Int) == 0) == (r.N == 0)))) = false := Go.Dec.nT (by unfold headOk at hh; exact hh)
    rw [h1, cond_false]
    unfold rank_Validate_l3
    have := loop_all (f := fun s : Int => rank_Validate_l3s r s) (n := r.Entries.length) (bad := badE r.Entries r.N) (E := (2 : Int)) (A := some (cond (badEnds r.Entries r.N) 2 0))
      (fun i hi => by
        unfold rank_Validate_l3s badE
        simp only [Int.ofNat_lt, hi, decide_true, cond_true, ent_idx hi, Option.bind_some, succ_nat hi hm]
        by_cases h0 : 0 < i
        · rw [predN h0 (Nat.le_of_lt hi) hm, ent_idx (by omega), decide_eq_true (by omega : (i : Int) > 0), decide_eq_true h0]
          simp only [Option.bind_some, cond_true, Bool.true_and]
          cases ((decide ((ent r.Entries i).Min < 1) || decide ((ent r.Entries i).Min > (ent r.Entries i).Max)) || decide ((ent r.Entries i).Max > r.N)) with
          | true => rfl
          | false =>
            simp only [cond_false, Bool.false_or]
        · rw [decide_eq_false (by omega : ¬ (i : Int) > 0), decide_eq_false h0]
          simp only [cond_false, Bool.false_and, Bool.or_false])
      (by
        unfold rank_Validate_l3s badEnds
        simp only [Int.lt_irrefl, decide_false, cond_false]
        by_cases h0 : 0 < r.Entries.length
        · rw [decide_eq_true (by omega : (r.Entries.length : Int) > 0), decide_eq_true h0, predN h0 (Nat.le_refl _) hm]
          have e0 : idx r.Entries (0 : Int) = some (ent r.Entries 0) := ent_idx h0
          rw [e0, ent_idx (by omega)]
          simp only [gd_true, Option.bind_some, Bool.true_and]
          cases hb : (ent r.Entries 0).Max != 1 with
          | true => simp
          | false =>
            simp only [Bool.not_false, gd_true, Option.bind_some, Bool.false_or]
            cases (ent r.Entries (r.Entries.length - 1)).Min != r.N <;> rfl
        · rw [decide_eq_false (by omega : ¬ (r.Entries.length : Int) > 0), decide_eq_false h0]
          simp)
    rw [show ((0 : Int)) = ((0 : Nat) : Int) from rfl] at this ⊢
    rw [this]
    unfold okB
    rw [hh]
    cases (List.range r.Entries.length).any (badE r.Entries r.N) <;> cases badEnds r.Entries r.N <;> rfl

/-- What a summary in order is. -/
structure OkR (l : List api_Entry) (N : Int) : Prop where
  n0 : 0 ≤ N
  n1 : N ≤ 1099511627776
  nil : l.length = 0 ↔ N = 0
  rng : ∀ i, i < l.length → 1 ≤ (ent l i).Min ∧ (ent l i).Min ≤ (ent l i).Max ∧ (ent l i).Max ≤ N
  up : ∀ i, i + 1 < l.length → (ent l i).V ≤ (ent l (i + 1)).V ∧ (ent l i).Min < (ent l (i + 1)).Min ∧ (ent l i).Max < (ent l (i + 1)).Max
  first : 0 < l.length → (ent l 0).Max = 1
  last : 0 < l.length → (ent l (l.length - 1)).Min = N

theorem okB_iff (r : api_Ranks) : okB r = true ↔ OkR r.Entries r.N := by
  unfold okB headOk badEnds
  have hany : (List.range r.Entries.length).any (badE r.Entries r.N) = false ↔ ∀ i, i < r.Entries.length → badE r.Entries r.N i = false := by
    rw [List.any_eq_false]
    constructor
    · intro h i hi
      have := h i (List.mem_range.2 hi)
      simpa using this
    · intro h i hi
      have := h i (List.mem_range.1 hi)
      simpa using this
  simp only [Bool.and_eq_true, Bool.not_eq_true', Bool.or_eq_false_iff, decide_eq_false_iff_not, Bool.not_eq_false', beq_iff_eq, hany, Bool.and_eq_false_iff, bne_eq_false_iff_eq, gt_iff_lt]
  constructor
  · rintro ⟨⟨⟨h1, h2⟩, h3⟩, h4, h5⟩
    have h3' : r.Entries.length = 0 ↔ r.N = 0 := by
      have := congrArg (· = true) h3
      simp only [beq_iff_eq, eq_iff_iff] at this
      omega
    refine ⟨by omega, by omega, h3', fun i hi => ?_, fun i hi => ?_, fun h0 => ?_, fun h0 => ?_⟩
    · have := h4 i hi
      unfold badE at this
      simp only [Bool.or_eq_false_iff, decide_eq_false_iff_not] at this
      omega
    · have := h4 (i + 1) hi
      unfold badE at this
      simp only [Bool.or_eq_false_iff, decide_eq_false_iff_not, Bool.and_eq_false_iff, Nat.add_sub_cancel] at this
      omega
    · rcases h5 with h5 | h5
      · omega
      · exact h5.1
    · rcases h5 with h5 | h5
      · omega
      · exact h5.2
  · intro h
    refine ⟨⟨⟨by have := h.n0; omega, by have := h.n1; omega⟩, ?_⟩, fun i hi => ?_, ?_⟩
    · have := h.nil
      rw [Bool.eq_iff_iff, beq_iff_eq, beq_iff_eq]
      omega
    · unfold badE
      have h1 := h.rng i hi
      simp only [Bool.or_eq_false_iff, decide_eq_false_iff_not, Bool.and_eq_false_iff]
      refine ⟨by omega, ?_⟩
      by_cases h0 : 0 < i
      · right
        have := h.up (i - 1) (by omega)
        rw [show i - 1 + 1 = i by omega] at this
        omega
      · exact .inl h0
    · by_cases h0 : 0 < r.Entries.length
      · exact .inr ⟨h.first h0, h.last h0⟩
      · exact .inl h0

/-- The greatest distance of successive bounds, among the first entries. -/
def gapTo (l : List api_Entry) : Nat → Int
  | 0 => 1
  | i + 1 => if i = 0 then 1 else if (ent l i).Max - (ent l (i - 1)).Min > gapTo l i then (ent l i).Max - (ent l (i - 1)).Min else gapTo l i

/-- The gap of a summary. -/
def gapR (l : List api_Entry) : Int := if l.length = 0 then 0 else gapTo l l.length

/-- The entries of a row in order. -/
def exE (l : List Int) : List api_Entry := l.mapIdx fun i v => ⟨v, (i : Int) + 1, (i : Int) + 1⟩

theorem exE_length (l : List Int) : (exE l).length = l.length := by unfold exE; simp

theorem exE_step (l : List Int) {i : Nat} (hi : i < l.length) : exE (l.take (i + 1)) = exE (l.take i) ++ [⟨l[i], (i : Int) + 1, (i : Int) + 1⟩] := by
  rw [List.take_succ_eq_append_getElem hi]
  unfold exE
  rw [List.mapIdx_concat, List.length_take, Nat.min_eq_left (Nat.le_of_lt hi)]

theorem exE_ent (l : List Int) {i : Nat} (hi : i < l.length) : ent (exE l) i = ⟨l[i], (i : Int) + 1, (i : Int) + 1⟩ := by
  rw [ent_get (by rw [exE_length]; exact hi)]
  unfold exE
  simp

theorem sortZ_length (l : List Int) : (sortZ l).length = l.length := List.length_mergeSort _

theorem rank_of (l : List Int) (hl : l.length ≤ 65536) : rank_Of l = some (⟨(l.length : Int), exE (sortZ l)⟩, 0) := by
  have hs := sortZ_length l
  have hm : (sortZ l).length ≤ maxLen := by rw [maxLen_eq]; omega
  unfold rank_Of
  rw [decide_eq_false (by omega), cond_false, ck_pos (by rw [decide_eq_true_eq]; omega), ck_pos (by rw [decide_eq_true_eq]; omega)]
  unfold rank_Of_l3
  obtain ⟨r, hr, hQ⟩ := loop_ind (f := fun s : Int × List api_Entry => rank_Of_l3s l s.1 s.2)
    (fun s => ∃ i : Nat, i ≤ (sortZ l).length ∧ s = ((i : Int), exE ((sortZ l).take i)))
    (fun s => (sortZ l).length - s.1.toNat) (fun r => r = (⟨(l.length : Int), exE (sortZ l)⟩, 0)) (0, []) ⟨0, Nat.zero_le _, rfl⟩ (by
      rintro _ ⟨i, hi, rfl⟩
      simp only
      unfold rank_Of_l3s
      by_cases hlt : i < (sortZ l).length
      · left
        simp only [Int.ofNat_lt, hlt, decide_true, cond_true, idx_nat, get_some hlt, Option.bind_some, succ_nat hlt hm]
        rw [ck_pos (by rw [decide_eq_true_eq, exE_length, List.length_take, List.length_singleton]; omega)]
        refine ⟨_, rfl, ⟨i + 1, hlt, ?_⟩, by show (sortZ l).length - ((i : Int) + 1).toNat < (sortZ l).length - (i : Int).toNat; omega⟩
        rw [exE_step _ hlt]
        rfl
      · right
        have hn : ¬ ((i : Int) < ((sortZ l).length : Int)) := by omega
        have hi2 : i = (sortZ l).length := by omega
        subst hi2
        rw [List.take_length]
        rw [decide_eq_false hn, cond_false, hs]
        exact ⟨_, rfl, rfl⟩)
  rw [hr, hQ]

theorem sort_awake : sortZ [3, 1] = [1, 3] := by
  unfold sortZ
  simp [List.mergeSort, List.MergeSort.Internal.splitInTwo]

theorem law21_awake_true : law21_awake = some true := by
  unfold law21_awake
  rw [rank_of _ (by simp), sort_awake]
  rfl

end Go.Win

