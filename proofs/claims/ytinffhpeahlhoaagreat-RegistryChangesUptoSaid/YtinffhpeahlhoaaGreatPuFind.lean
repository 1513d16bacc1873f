/- Pu: chapter 26: places of ids. -/
import Derived.Test.YtinffhpeahlhoaaGreatPu0
import Derived.Test.YtinffhpeahlhoaaGreatWin
set_option linter.unusedVariables false
set_option linter.unusedSimpArgs false
set_option linter.unnecessarySimpa false
set_option linter.unusedSectionVars false
namespace Go.Win
open Go.Vc Go.Dec

/-- The id of record i. -/
def rid (l : List api_Record) (i : Nat) : Int := (l.getD i default).ID

theorem rec_some {l : List api_Record} {i : Nat} (h : i < l.length) : idx l (i : Int) = some (l.getD i default) := by
  rw [idx_nat, List.getElem?_eq_getElem h]
  simp [List.getD, List.getElem?_eq_getElem h]

/-- The ids ascend. -/
def Asc (l : List api_Record) : Prop := ∀ i, i + 1 < l.length → rid l i < rid l (i + 1)

theorem asc_lt {l : List api_Record} (h : Asc l) : ∀ {i j : Nat}, i < j → j < l.length → rid l i < rid l j := by
  intro i j hij hj
  induction j with
  | zero => omega
  | succ j ih =>
    have := h j hj
    by_cases e : i = j
    · subst e; exact this
    · have := ih (by omega) (by omega); omega

theorem few26 (l : List api_Record) (hl : l.length ≤ maxLen) : ∃ b, law26_few l = some b ∧ (b = true → l.length ≤ 70) := by
  unfold law26_few law26_few_l2
  let g : Nat → Int → Int := fun i b => (w64 ((w64 ((w64 ((w64 ((w64 ((w64 (b + ((l.getD i default).Synopsis.Recent.Items.length : Int))) + ((l.getD i default).Synopsis.Quantile.Blocks.length : Int))) + ((l.getD i default).Synopsis.Smooth.Marks.length : Int))) + ((l.getD i default).Synopsis.Spread.Marks.length : Int))) + ((l.getD i default).Synopsis.Summary.Tuples.length : Int))) + ((l.getD i default).Synopsis.Extreme.Items.length : Int)))
  have := loop_fold (f := fun (s : (Int × Int)) => law26_few_l2s l s.1 s.2) (fun i b => (b, (i : Int))) l.length g
    (fun b => some ((decide ((l.length : Int) ≤ (70:Int))) && (decide (b ≤ (300:Int)))))
    (fun i b hi => by
      unfold law26_few_l2s
      have hs : w64 ((i : Int) + 1) = (i : Int) + 1 := by rw [maxLen_eq] at hl; rw [w64_id] <;> omega
      simp only [Int.ofNat_lt, hi, decide_true, cond_true, rec_some hi, Option.bind_some, hs]
      rfl)
    (fun b => by unfold law26_few_l2s; simp) 0
  refine ⟨_, this, fun hb => ?_⟩
  simp only [Bool.and_eq_true, decide_eq_true_eq] at hb
  omega

/-- How many of the first ids lie below. -/
def cntB (l : List api_Record) (id : Int) : Nat → Nat
  | 0 => 0
  | i + 1 => cntB l id i + if rid l i < id then 1 else 0

theorem cntB_le (l : List api_Record) (id : Int) : ∀ i, cntB l id i ≤ i
  | 0 => Nat.le_refl 0
  | i + 1 => by
    have := cntB_le l id i
    simp only [cntB]
    split <;> omega

theorem cntB_iff {l : List api_Record} (h : Asc l) (id : Int) : ∀ i, i ≤ l.length → ∀ j, j < i → (rid l j < id ↔ j < cntB l id i) := by
  intro i
  induction i with
  | zero => intro _ j hj; omega
  | succ i ih =>
    intro hi j hj
    have hc := cntB_le l id i
    simp only [cntB]
    by_cases hlt : rid l i < id
    · rw [if_pos hlt]
      have full : cntB l id i = i := by
        apply Nat.le_antisymm hc
        apply Nat.le_of_not_lt
        intro hlt2
        have h1 := (ih (by omega) (cntB l id i) hlt2)
        have h2 : rid l (cntB l id i) < rid l i := asc_lt h hlt2 (by omega)
        have := h1.1 (by omega)
        omega
      constructor
      · intro _; omega
      · intro _
        by_cases e : j = i
        · subst e; exact hlt
        · have := asc_lt h (show j < i by omega) (by omega); omega
    · rw [if_neg hlt]
      by_cases e : j = i
      · subst e
        constructor
        · intro hh; exact absurd hh hlt
        · intro hh; omega
      · exact ih (by omega) j (by omega)

/-- What both answer: the place, and whether the id is there. -/
def foundAt (l : List api_Record) (id : Int) (n : Nat) : Int × Bool := ((n : Int), decide ((n : Int) < (l.length : Int)) && (rid l n == id))

theorem found_end (l : List api_Record) (id : Int) (n : Nat) :
    (Option.bind (gd (decide ((n : Int) < (l.length : Int))) (idx l (n : Int))) fun x => some ((n : Int), ((decide ((n : Int) < (l.length : Int))) && (x.ID == id)))) = some (foundAt l id n) := by
  by_cases h : n < l.length
  · rw [decide_eq_true (by omega), gd_true, rec_some h, Option.bind_some]
    unfold foundAt rid
    rw [decide_eq_true (by omega)]
  · rw [decide_eq_false (by omega), gd_false, Option.bind_some]
    unfold foundAt
    rw [decide_eq_false (by omega)]; rfl

theorem find26 (l : List api_Record) (id : Int) (hl : l.length ≤ maxLen) : ref26_Find l id = some (foundAt l id (cntB l id l.length)) := by
  unfold ref26_Find ref26_Find_l2
  have := loop_foldI (f := fun (s : (Int × Int)) => ref26_Find_l2s l id s.1 s.2) (fun i b => (b, (i : Int))) l.length
    (fun i b => b = (cntB l id i : Int)) (fun i b => if rid l i < id then b + 1 else b)
    (fun b => (Option.bind (gd (decide (b < (l.length : Int))) (idx l b)) fun x8_8 => some (b, ((decide (b < (l.length : Int))) && (x8_8.ID == id)))))
    (fun i b hi hb => by
      have hc := cntB_le l id i
      have hs : w64 ((i : Int) + 1) = (i : Int) + 1 := by rw [maxLen_eq] at hl; rw [w64_id] <;> omega
      have hs2 : w64 (b + 1) = b + 1 := by rw [maxLen_eq] at hl; rw [w64_id] <;> omega
      constructor
      · unfold ref26_Find_l2s
        simp only [Int.ofNat_lt, hi, decide_true, cond_true, rec_some hi, Option.bind_some, hs, hs2]
        show cond (decide (rid l i < id)) _ _ = _
        by_cases h : rid l i < id
        · rw [decide_eq_true h, if_pos h]; rfl
        · rw [decide_eq_false h, if_neg h]; rfl
      · simp only [cntB]
        by_cases h : rid l i < id
        · rw [if_pos h, if_pos h, hb]; omega
        · rw [if_neg h, if_neg h, hb]; omega)
    (fun b _ => by unfold ref26_Find_l2s; simp) 0 rfl
  obtain ⟨h1, h2⟩ := this
  rw [show ((0 : Int), (0 : Int)) = ((0 : Int), ((0 : Nat) : Int)) from rfl, h1, h2]
  exact found_end l id _

theorem half64 {a b : Nat} (h : a + b ≤ 9223372036854775807) : w64 (ishr .u64 (wu64 (w64 ((a : Int) + (b : Int)))) 1) = (((a + b) / 2 : Nat) : Int) := by
  have e1 : w64 ((a : Int) + (b : Int)) = ((a + b : Nat) : Int) := by rw [w64_id] <;> omega
  have e2 : wu64 (((a + b : Nat) : Int)) = ((a + b : Nat) : Int) := by rw [wu64_eq]; omega
  have e3 : ∀ x : Int, ishr .u64 x 1 = x / 2 := fun x => by
    show x.fdiv (2 ^ (min (1 : Int).toNat IntKind.u64.bits)) = _
    have : min (1 : Int).toNat IntKind.u64.bits = 1 := rfl
    rw [this, Int.fdiv_eq_ediv_of_nonneg _ (by decide)]
    rfl
  rw [e1, e2, e3, w64_id] <;> omega

theorem search26 (l : List api_Record) (id : Int) (N : Nat) (hN : N ≤ l.length) (hl : l.length ≤ 1000000) (hp : ∀ j, j < l.length → (rid l j < id ↔ j < N)) :
    sort_Search_i1 (l.length : Int) l id = some (N : Int) := by
  unfold sort_Search_i1 sort_Search_i1_l2
  have key : ∀ m lo hi : Nat, hi - lo ≤ m → lo ≤ N → N ≤ hi → hi ≤ l.length →
      loop (fun (s : (Int × Int)) => sort_Search_i1_l2s l id s.1 s.2) ((lo : Int), (hi : Int)) = some (N : Int) := by
    intro m
    induction m with
    | zero =>
      intro lo hi h1 h2 h3 h4
      have : lo = N := by omega
      subst this
      have : hi = lo := by omega
      subst this
      refine loop_inr ?_
      unfold sort_Search_i1_l2s
      rw [decide_eq_false (by omega)]; rfl
    | succ m ih =>
      intro lo hi h1 h2 h3 h4
      by_cases hlt : lo < hi
      · have hmid : (lo + hi) / 2 < l.length := by omega
        have hp' := hp _ hmid
        have hst : sort_Search_i1_l2s l id (lo : Int) (hi : Int) = some (.inl (if (lo + hi) / 2 < N then (((((lo + hi) / 2 + 1 : Nat)) : Int), (hi : Int)) else ((lo : Int), (((lo + hi) / 2 : Nat) : Int)))) := by
          unfold sort_Search_i1_l2s registry_Find_1_i1
          rw [decide_eq_true (by omega), cond_true]
          simp only [half64 (show lo + hi ≤ 9223372036854775807 by omega), rec_some hmid, Option.bind_some]
          have e2 : w64 ((((lo + hi) / 2 : Nat) : Int) + 1) = (((lo + hi) / 2 + 1 : Nat) : Int) := by rw [w64_id] <;> omega
          rw [e2]
          show cond (!(decide (rid l ((lo + hi) / 2) ≥ id))) _ _ = _
          by_cases h : (lo + hi) / 2 < N
          · have := hp'.2 h
            rw [decide_eq_false (by omega), if_pos h]; rfl
          · have : ¬ rid l ((lo + hi) / 2) < id := fun hh => h (hp'.1 hh)
            rw [decide_eq_true (by omega), if_neg h]; rfl
        rw [loop_inl hst]
        by_cases h : (lo + hi) / 2 < N
        · rw [if_pos h]
          exact ih _ _ (by omega) (by omega) (by omega) (by omega)
        · rw [if_neg h]
          exact ih _ _ (by omega) (by omega) (by omega) (by omega)
      · have : lo = N := by omega
        subst this
        refine loop_inr ?_
        unfold sort_Search_i1_l2s
        rw [decide_eq_false (by omega)]; rfl
  exact key l.length 0 l.length (by omega) (by omega) hN (by omega)

theorem find_prog (l : List api_Record) (id : Int) (hl : l.length ≤ 1000000) (h : Asc l) : registry_Find l id = some (foundAt l id (cntB l id l.length)) := by
  unfold registry_Find
  rw [search26 l id _ (cntB_le l id _) hl (fun j hj => cntB_iff h id _ (Nat.le_refl _) j hj), Option.bind_some]
  exact found_end l id _

theorem awake26 : law26_awake = some true := by
  unfold law26_awake registry_Valid registry_Valid_l3
  have : loop (fun (s : Int) => registry_Valid_l3s [] s) 0 = some true := loop_inr rfl
  have c : (((decide ((1:Int) < (1:Int))) || (decide ((1:Int) > (64:Int)))) || (decide ((([] : List api_Record).length : Int) > (1:Int)))) = false := rfl
  rw [c, cond_false, this]; rfl

end Go.Win

