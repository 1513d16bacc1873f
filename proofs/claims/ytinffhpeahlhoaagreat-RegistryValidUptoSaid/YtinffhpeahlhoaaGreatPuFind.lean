/- Pu: chapter 26: places of ids. -/
import Derived.Test.YtinffhpeahlhoaaGreatPu0
import Derived.Test.YtinffhpeahlhoaaGreatWin
set_option linter.unusedVariables false
set_option linter.unusedSimpArgs false
set_option linter.unnecessarySimpa false
set_option linter.unusedSectionVars false
namespace Go.Win
open Go.Vc Go.Dec

/-- The id of record i. -/
def rid (l : List api_Record) (i : Nat) : Int := (l.getD i default).ID

theorem rec_some {l : List api_Record} {i : Nat} (h : i < l.length) : idx l (i : Int) = some (l.getD i default) := by
  rw [idx_nat, List.getElem?_eq_getElem h]
  simp [List.getD, List.getElem?_eq_getElem h]

/-- The ids ascend. -/
def Asc (l : List api_Record) : Prop := ∀ i, i + 1 < l.length → rid l i < rid l (i + 1)

theorem few26 (l : List api_Record) (hl : l.length ≤ maxLen) : ∃ b, law26_few l = some b ∧ (b = true → l.length ≤ 70) := by
  unfold law26_few law26_few_l2
  let g : Nat → Int → Int := fun i b => (w64 ((w64 ((w64 ((w64 ((w64 ((w64 (b + ((l.getD i default).Synopsis.Recent.Items.length : Int))) + ((l.getD i default).Synopsis.Quantile.Blocks.length : Int))) + ((l.getD i default).Synopsis.Smooth.Marks.length : Int))) + ((l.getD i default).Synopsis.Spread.Marks.length : Int))) + ((l.getD i default).Synopsis.Summary.Tuples.length : Int))) + ((l.getD i default).Synopsis.Extreme.Items.length : Int)))
  have := loop_fold (f := fun (s : (Int × Int)) => law26_few_l2s l s.1 s.2) (fun i b => (b, (i : Int))) l.length g
    (fun b => some ((decide ((l.length : Int) ≤ (70:Int))) && (decide (b ≤ (300:Int)))))
    (fun i b hi => by
      unfold law26_few_l2s
      have hs : w64 ((i : Int) + 1) = (i : Int) + 1 := by rw [maxLen_eq] at hl; rw [w64_id] <;> omega
      simp only [Int.ofNat_lt, hi, decide_true, cond_true, rec_some hi, Option.bind_some, hs]
      rfl)
    (fun b => by unfold law26_few_l2s; simp) 0
  refine ⟨_, this, fun hb => ?_⟩
  simp only [Bool.and_eq_true, decide_eq_true_eq] at hb
  omega

theorem ascends26 (l : List api_Record) (hl : l.length ≤ maxLen) : ∃ b, ref26_Ascends l = some b ∧ (b = true → Asc l) := by
  unfold ref26_Ascends ref26_Ascends_l2
  have key : ∀ k i : Nat, i + k = l.length → ∃ b, loop (fun (s : Int) => ref26_Ascends_l2s l s) ((i + 1 : Nat) : Int) = some b ∧ (b = true → ∀ j, i ≤ j → j + 1 < l.length → rid l j < rid l (j + 1)) := by
    intro k
    induction k with
    | zero =>
      intro i hi
      refine ⟨true, loop_inr ?_, fun _ j h1 h2 => by omega⟩
      unfold ref26_Ascends_l2s
      rw [decide_eq_false (by omega)]; rfl
    | succ k ih =>
      intro i hi
      by_cases hlt : i + 1 < l.length
      · obtain ⟨b, hb, hp⟩ := ih (i + 1) (by omega)
        have e1 : w64 (((i + 1 : Nat) : Int) - 1) = (i : Int) := by rw [maxLen_eq] at hl; rw [w64_id] <;> omega
        have e2 : w64 (((i + 1 : Nat) : Int) + 1) = ((i + 1 + 1 : Nat) : Int) := by rw [maxLen_eq] at hl; rw [w64_id] <;> omega
        by_cases hlt2 : rid l i < rid l (i + 1)
        · refine ⟨b, ?_, fun hb' j h1 h2 => ?_⟩
          · rw [loop_inl (s' := ((i + 1 + 1 : Nat) : Int)) ?_]
            · exact hb
            · unfold ref26_Ascends_l2s
              rw [decide_eq_true (by omega), cond_true, e1, rec_some (by omega), Option.bind_some, rec_some hlt, Option.bind_some]
              have : decide ((l.getD i default).ID ≥ (l.getD (i + 1) default).ID) = false := decide_eq_false (by unfold rid at hlt2; omega)
              rw [this, cond_false, e2]
          · by_cases e : j = i
            · subst e; exact hlt2
            · exact hp hb' j (by omega) h2
        · refine ⟨false, loop_inr ?_, fun hb' => by cases hb'⟩
          unfold ref26_Ascends_l2s
          rw [decide_eq_true (by omega), cond_true, e1, rec_some (by omega), Option.bind_some, rec_some hlt, Option.bind_some]
          have : decide ((l.getD i default).ID ≥ (l.getD (i + 1) default).ID) = true := decide_eq_true (by unfold rid at hlt2; omega)
          rw [this]; rfl
      · refine ⟨true, loop_inr ?_, fun _ j h1 h2 => by omega⟩
        unfold ref26_Ascends_l2s
        rw [decide_eq_false (by omega)]; rfl
  obtain ⟨b, h1, h2⟩ := key l.length 0 (by omega)
  exact ⟨b, h1, fun hb i hi => h2 hb i (by omega) hi⟩

theorem awake26 : law26_awake = some true := by
  unfold law26_awake registry_Valid registry_Valid_l3
  have : loop (fun (s : Int) => registry_Valid_l3s [] s) 0 = some true := loop_inr rfl
  have c : (((decide ((1:Int) < (1:Int))) || (decide ((1:Int) > (64:Int)))) || (decide ((([] : List api_Record).length : Int) > (1:Int)))) = false := rfl
  rw [c, cond_false, this]; rfl

end Go.Win

