/- Pu: the package that turns numbers into arguments. -/
import Derived.Test.YtmipeaidieflmaaPu09
set_option linter.unusedVariables false
set_option linter.unusedSimpArgs false
set_option linter.unnecessarySimpa false
set_option linter.unusedSectionVars false
namespace Go.Win
open Go.Vc Go.Dec

theorem mod_ok (a : Int) {n : Int} (h1 : 1 ≤ n) (h2 : n ≤ 4611686018427387904) : ∃ r, made_Mod a n = some r ∧ 0 ≤ r ∧ r < n := by
  have g1 := Int.tmod_lt_of_pos a (show 0 < n by omega)
  have g2 := Int.lt_tmod_of_pos a (show 0 < n by omega)
  unfold made_Mod
  have hk : decide (n ≠ 0) = true := by rw [decide_eq_true_eq]; omega
  rw [hk, ck_true]
  by_cases h : a.tmod n < 0
  · have e : w64 (a.tmod n + n) = a.tmod n + n := by rw [w64_id] <;> omega
    rw [decide_eq_true h, cond_true, e]
    exact ⟨_, rfl, by omega, by omega⟩
  · rw [decide_eq_false h, cond_false]
    exact ⟨_, rfl, by omega, by omega⟩

theorem value_ok (a : Int) : ∃ r, made_Value a = some r ∧ ref09_Value r = true := by
  unfold made_Value
  obtain ⟨q, hq, _, _⟩ := mod_ok a (n := 8) (by decide) (by decide)
  obtain ⟨r, hr, r1, r2⟩ := mod_ok (w64 (a.tdiv 8)) (n := 8193) (by decide) (by decide)
  obtain ⟨s, hs, s1, s2⟩ := mod_ok (w64 (a.tdiv 8)) (n := 2) (by decide) (by decide)
  obtain ⟨t, ht, t1, t2⟩ := mod_ok (w64 (a.tdiv 8)) (n := 13) (by decide) (by decide)
  rw [hq, hr, hs, ht]
  simp only [Option.bind_some]
  have v : ∀ x : Int, -4096 ≤ x → x ≤ 4096 → ref09_Value x = true := fun x h1 h2 => by
    unfold ref09_Value
    rw [Bool.and_eq_true, decide_eq_true_eq, decide_eq_true_eq]; omega
  cases q == 0 with
  | true =>
    have e : w64 (r - 4096) = r - 4096 := by rw [w64_id] <;> omega
    refine ⟨_, rfl, ?_⟩
    rw [e]; exact v _ (by omega) (by omega)
  | false =>
    cases q == 1 with
    | true =>
      have e1 : w64 (2 * s) = 2 * s := by rw [w64_id] <;> omega
      have e2 : w64 (2 * s - 1) = 2 * s - 1 := by rw [w64_id] <;> omega
      have e3 : w64 (4096 * (2 * s - 1)) = 4096 * (2 * s - 1) := by rw [w64_id] <;> omega
      refine ⟨_, rfl, ?_⟩
      rw [e1, e2, e3]; exact v _ (by omega) (by omega)
    | false =>
      have e : w64 (t - 6) = t - 6 := by rw [w64_id] <;> omega
      refine ⟨_, rfl, ?_⟩
      rw [e]; exact v _ (by omega) (by omega)

end Go.Win

