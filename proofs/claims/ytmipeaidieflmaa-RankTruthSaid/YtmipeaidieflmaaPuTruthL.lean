/- Pu: chapter 21: the bounds of a summary that was merged and pruned in any way are true. -/
import Derived.Test.YtmipeaidieflmaaPuTruth
import Derived.Test.YtmipeaidieflmaaPuExRanks
import Derived.Test.YtmipeaidieflmaaPuMade
set_option linter.unusedVariables false
set_option linter.unusedSimpArgs false
set_option linter.unnecessarySimpa false
set_option linter.unusedSectionVars false
namespace Go.Win
open Go.Vc Go.Dec

theorem tree_tru {b : Nat} (hb1 : 1 ≤ b) (hb2 : b ≤ 200) : ∀ (fu : Nat) (vs : List Int), vs.length < fu → vs.length ≤ 200 →
    ∃ l, law21_tree fu vs (b : Int) = some (⟨(vs.length : Int), l⟩, true) ∧ Tru l vs.length vs ∧ l.length ≤ b + 2 := by
  intro fu
  induction fu with
  | zero => intro vs h; omega
  | succ fu ih =>
    intro vs hf hl
    rw [law21_tree]
    by_cases h2 : (vs.length : Int) ≤ 2
    · rw [decide_eq_true h2, cond_true, rank_of vs (by omega)]
      exact ⟨exE (sortZ vs), rfl, tru_exact (by omega), by rw [exE_length, sortZ_length]; omega⟩
    · have hm : Int.tdiv (vs.length : Int) 2 = ((vs.length / 2 : Nat) : Int) := by
        rw [Int.tdiv_eq_ediv_of_nonneg (by omega)]; omega
      have hk : decide (0 ≤ ((vs.length / 2 : Nat) : Int) ∧ ((vs.length / 2 : Nat) : Int) ≤ (vs.length : Int)) = true := by rw [decide_eq_true_eq]; omega
      rw [decide_eq_false h2, cond_false, hm, w64_id (by omega) (by omega), ck_pos hk, Int.toNat_natCast]
      have l1 : (vs.take (vs.length / 2)).length = vs.length / 2 := by rw [List.length_take]; omega
      have l2 : (vs.drop (vs.length / 2)).length = vs.length - vs.length / 2 := List.length_drop
      obtain ⟨x, x1, x2, x3⟩ := ih (vs.take (vs.length / 2)) (by omega) (by omega)
      obtain ⟨y, y1, y2, y3⟩ := ih (vs.drop (vs.length / 2)) (by omega) (by omega)
      rw [x1, Option.bind_some, ck_pos hk, y1, Option.bind_some]
      obtain ⟨z, z1, z2, z3⟩ := merge_tru x2 y2 (by omega) (by omega) (by omega)
      rw [z1, Option.bind_some]
      obtain ⟨w, w1, w2, w3⟩ := prune_tru z2 (by omega) hb1 (by omega)
      have e : ((vs.take (vs.length / 2)).length : Int) + ((vs.drop (vs.length / 2)).length : Int) = (vs.length : Int) := by omega
      rw [w1, Option.bind_some, e]
      rw [e, List.take_append_drop] at w2
      exact ⟨w, rfl, w2, by omega⟩

theorem whole_num {lo hi : Int} (h : lo ≤ hi) : (bounds_Whole lo hi).1.Lo.Num = lo ∧ (bounds_Whole lo hi).1.Hi.Num = hi := by
  unfold bounds_Whole
  rw [decide_eq_false (by omega), cond_false]
  exact ⟨rfl, rfl⟩

theorem law21_RankTruth_true (p0 : List Int) (p1 p2 : Int) (_ : wfL (wfI .i64) p0) (_ : wfI .i64 p1) (_ : wfI .i64 p2) : law21_RankTruth p0 p1 p2 = some true := by
  unfold law21_RankTruth
  obtain ⟨y, hy, y0, y20⟩ : ∃ y, made_Int p1 20 = some y ∧ 0 ≤ y ∧ y < 20 := by
    unfold made_Int
    obtain ⟨r, h1, h2, h3⟩ := mod_ok p1 (n := 20) (by decide) (by decide)
    exact ⟨r, by rw [h1]; rfl, h2, h3⟩
  rw [hy, Option.bind_some]
  unfold law21_RankTruth_l2
  have eb : w64 (1 + y) = ((y.toNat + 1 : Nat) : Int) := by rw [w64_id] <;> omega
  obtain ⟨r, hr, hQ⟩ := loop_ind (f := fun s : List Int × List api_Item × Int => law21_RankTruth_l2s p0 p2 y s.1 s.2.1 s.2.2)
    (fun s => ∃ i : Nat, i ≤ p0.length ∧ i ≤ 150 ∧ s.2.2 = (i : Int) ∧ s.1.length = i ∧ vals s.2.1 = s.1)
    (fun s => 150 - s.2.2.toNat) (fun r => r = true) ([], [], 0) ⟨0, by omega, by omega, rfl, rfl, rfl⟩ (by
      rintro ⟨vs, its, _⟩ ⟨i, hi, h150, rfl, hl, hv⟩
      simp only at hl hv ⊢
      unfold law21_RankTruth_l2s
      have hil : its.length = i := by rw [← vals_length, hv, hl]
      by_cases hlt : i < p0.length ∧ i < 150
      · left
        have hc : (decide ((i : Int) < (p0.length : Int)) && decide ((i : Int) < 150)) = true := by simp only [Bool.and_eq_true, decide_eq_true_eq]; omega
        obtain ⟨v, e1, _⟩ := value_ok p0[i]
        simp only [hc, cond_true, idx_get hlt.1, Option.bind_some, e1]
        rw [
          ck_pos (by rw [decide_eq_true_eq, hl, List.length_singleton]; omega),
          ck_pos (by rw [decide_eq_true_eq, hil, List.length_singleton]; omega)]
        refine ⟨_, rfl, ⟨i + 1, by omega, by omega, ?_, by simp [hl], ?_⟩, ?_⟩
        · show w64 ((i : Int) + 1) = _
          rw [w64_id] <;> omega
        · show vals (its ++ [_]) = vs ++ [v]
          rw [← hv]; unfold vals; simp
        · show 150 - (w64 ((i : Int) + 1)).toNat < 150 - ((i : Int)).toNat
          rw [w64_id] <;> omega
      · right
        have hc : (decide ((i : Int) < (p0.length : Int)) && decide ((i : Int) < 150)) = false := by
          rw [Bool.and_eq_false_iff, decide_eq_false_iff_not, decide_eq_false_iff_not]; omega
        rw [hc, cond_false, eb]
        obtain ⟨l, t1, t2, t3⟩ := tree_tru (b := y.toNat + 1) (by omega) (by omega) 200 vs (by omega) (by omega)
        have hok : okB ⟨(vs.length : Int), l⟩ = true := (okB_iff _).2 t2.ok
        rw [t1, Option.bind_some]
        simp only [Bool.not_true, bne_self_eq_false, Bool.or_self, Bool.not_false, gd_true]
        rw [rank_validate _ (by simp only; omega), hok]
        simp only [Option.bind_some, cond_true, bne_self_eq_false, Bool.false_or, cond_false]
        have hB : ∀ v, ref08_Below its v = some (ltC vs v : Int) := fun v => by rw [ref_below8, exact_below its v (by omega), hv]; rfl
        have hR : ∀ v, ref08_Rank its v = some (leC vs v : Int) := fun v => by rw [ref_rank8, exact_rank its v (by omega), hv]; rfl
        unfold law21_RankTruth_l7
        have hany : (List.range l.length).any (fun _ => false) = false := by rw [List.any_eq_false]; simp
        have hL : loop (fun s : Int => law21_RankTruth_l7s p2 its (⟨(vs.length : Int), l⟩, true) s) 0 = cond ((List.range l.length).any fun _ => false) (some false) (some true) := by
          refine loop_all (fun j hj => ?_) ?_
          · unfold law21_RankTruth_l7s
            have m1 := t2.mem j hj
            have m2 := t2.mn j hj
            have m3 := t2.mx j hj
            have m4 := lt_le_mem m1
            have m5 := ltC_len vs (ent l j).V
            have e : w64 ((ltC vs (ent l j).V : Int) + 1) = (ltC vs (ent l j).V : Int) + 1 := by rw [w64_id] <;> omega
            rw [decide_eq_true (by simp only; omega), cond_true]
            simp only
            rw [ent_idx hj, Option.bind_some, hB, Option.bind_some, hR, Option.bind_some, e,
              decide_eq_false (by omega), decide_eq_false (by omega), decide_eq_false (by omega), w64_id (by omega) (by omega)]
            rfl
          · unfold law21_RankTruth_l7s
            simp only
            rw [decide_eq_false (by omega), cond_false]
            obtain ⟨lo, hi', r1, r2, r3, r4, r5⟩ := rank_tru t2 (by omega) p2
            obtain ⟨w1, w2⟩ := whole_num (show lo ≤ hi' by omega)
            rw [r1, Option.bind_some, hR, Option.bind_some]
            simp only [w1, w2, beq_self_eq_true, decide_eq_true r2, decide_eq_true r3, Bool.and_self, gd_true, law21_awake_true, Option.bind_some]
        rw [hL, hany]
        exact ⟨true, rfl, rfl⟩)
  rw [hr, hQ]

end Go.Win

