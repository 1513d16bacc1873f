/- Pu: chapter 08: ranks of values and the value of a rank. -/
import Derived.Test.YtmipeaidieflmaaPuAsks
set_option linter.unusedVariables false
set_option linter.unusedSimpArgs false
set_option linter.unnecessarySimpa false
set_option linter.unusedSectionVars false
namespace Go.Win
open Go.Vc Go.Dec

def vals (l : List api_Item) : List Int := l.map fun p => p.V

theorem vals_length (l : List api_Item) : (vals l).length = l.length := List.length_map _

/-- How many are not greater than v; how many are less. -/
def cLe (l : List Int) (v : Int) : Nat := l.countP fun x => decide (x ≤ v)
def cLt (l : List Int) (v : Int) : Nat := l.countP fun x => decide (x < v)

theorem cLe_le (l : List Int) (v : Int) : cLe l v ≤ l.length := List.countP_le_length
theorem cLt_le (l : List Int) (v : Int) : cLt l v ≤ l.length := List.countP_le_length

theorem vals_step (l : List api_Item) {i : Nat} (hi : i < l.length) : vals (l.take (i + 1)) = vals (l.take i) ++ [l[i].V] := by
  unfold vals
  rw [List.take_succ_eq_append_getElem hi, List.map_append]
  rfl

theorem exact_rank (l : List api_Item) (v : Int) (hl : l.length ≤ 100000) : exact_Rank l v = some (cLe (vals l) v : Int) := by
  have hm : l.length ≤ maxLen := by rw [maxLen_eq]; omega
  unfold exact_Rank exact_Rank_l2
  obtain ⟨r, hr, hQ⟩ := loop_ind (f := fun s : Int × Int => exact_Rank_l2s l v s.1 s.2)
    (fun s => ∃ i : Nat, i ≤ l.length ∧ s = ((cLe (vals (l.take i)) v : Int), (i : Int)))
    (fun s => l.length - s.2.toNat) (fun r => r = (cLe (vals l) v : Int)) (0, 0) ⟨0, Nat.zero_le _, rfl⟩ (by
      rintro _ ⟨i, hi, rfl⟩
      simp only
      unfold exact_Rank_l2s
      by_cases hlt : i < l.length
      · left
        have hc := cLe_le (vals (l.take i)) v
        rw [vals_length, List.length_take] at hc
        simp only [Int.ofNat_lt, hlt, decide_true, cond_true, idx_nat, get_some hlt, Option.bind_some, succ_nat hlt hm]
        have hs : cLe (vals (l.take (i + 1))) v = cLe (vals (l.take i)) v + (if l[i].V ≤ v then 1 else 0) := by
          rw [vals_step l hlt]; unfold cLe; rw [List.countP_append, List.countP_singleton]; simp
        by_cases hv : l[i].V ≤ v
        · rw [decide_eq_true hv, cond_true, w64_id (by omega) (by omega)]
          rw [if_pos hv] at hs
          exact ⟨_, rfl, ⟨i + 1, hlt, by rw [hs]; simp⟩, by show l.length - ((i : Int) + 1).toNat < l.length - (i : Int).toNat; omega⟩
        · rw [decide_eq_false hv, cond_false]
          rw [if_neg hv] at hs
          exact ⟨_, rfl, ⟨i + 1, hlt, by rw [hs]; simp⟩, by show l.length - ((i : Int) + 1).toNat < l.length - (i : Int).toNat; omega⟩
      · right
        have : i = l.length := by omega
        subst this
        rw [List.take_length, decide_eq_false (by omega), cond_false]
        exact ⟨_, rfl, rfl⟩)
  rw [hr, hQ]

theorem exact_below (l : List api_Item) (v : Int) (hl : l.length ≤ 100000) : exact_Below l v = some (cLt (vals l) v : Int) := by
  have hm : l.length ≤ maxLen := by rw [maxLen_eq]; omega
  unfold exact_Below exact_Below_l2
  obtain ⟨r, hr, hQ⟩ := loop_ind (f := fun s : Int × Int => exact_Below_l2s l v s.1 s.2)
    (fun s => ∃ i : Nat, i ≤ l.length ∧ s = ((cLt (vals (l.take i)) v : Int), (i : Int)))
    (fun s => l.length - s.2.toNat) (fun r => r = (cLt (vals l) v : Int)) (0, 0) ⟨0, Nat.zero_le _, rfl⟩ (by
      rintro _ ⟨i, hi, rfl⟩
      simp only
      unfold exact_Below_l2s
      by_cases hlt : i < l.length
      · left
        have hc := cLt_le (vals (l.take i)) v
        rw [vals_length, List.length_take] at hc
        simp only [Int.ofNat_lt, hlt, decide_true, cond_true, idx_nat, get_some hlt, Option.bind_some, succ_nat hlt hm]
        have hs : cLt (vals (l.take (i + 1))) v = cLt (vals (l.take i)) v + (if l[i].V < v then 1 else 0) := by
          rw [vals_step l hlt]; unfold cLt; rw [List.countP_append, List.countP_singleton]; simp
        by_cases hv : l[i].V < v
        · rw [decide_eq_true hv, cond_true, w64_id (by omega) (by omega)]
          rw [if_pos hv] at hs
          exact ⟨_, rfl, ⟨i + 1, hlt, by rw [hs]; simp⟩, by show l.length - ((i : Int) + 1).toNat < l.length - (i : Int).toNat; omega⟩
        · rw [decide_eq_false hv, cond_false]
          rw [if_neg hv] at hs
          exact ⟨_, rfl, ⟨i + 1, hlt, by rw [hs]; simp⟩, by show l.length - ((i : Int) + 1).toNat < l.length - (i : Int).toNat; omega⟩
      · right
        have : i = l.length := by omega
        subst this
        rw [List.take_length, decide_eq_false (by omega), cond_false]
        exact ⟨_, rfl, rfl⟩)
  rw [hr, hQ]

theorem ref_rank8 : @ref08_Rank = @exact_Rank := rfl
theorem ref_below8 : @ref08_Below = @exact_Below := rfl

end Go.Win

