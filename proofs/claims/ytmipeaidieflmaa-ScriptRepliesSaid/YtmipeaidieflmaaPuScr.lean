/- Pu: chapter 30: frames; the statement ScriptSplits. -/
import Derived.Test.YtmipeaidieflmaaPuEnc
set_option linter.unusedVariables false
set_option linter.unusedSimpArgs false
set_option linter.unnecessarySimpa false
set_option linter.unusedSectionVars false
namespace Go.Win
open Go.Vc Go.Dec

theorem codec_read {l : List Int} (hb : byt l) (hl : l.length ≤ 1099511627776) {a : Nat} (ha : a ≤ l.length) : codec_Read l a = some (rdA l a) := by
  unfold codec_Read
  rw [tape_read hb hl ha, Option.bind_some]

theorem byt_take {l : List Int} (h : byt l) (k : Nat) : byt (l.take k) := fun x hx => h x (List.take_subset _ _ hx)

/-- What both functions find: the frames, and the rest. -/
structure Fr (l : List Int) (r : List (List Int) × List Int) : Prop where
  fr : ∀ x ∈ r.1, byt x ∧ x.length ≤ l.length
  len : r.1.length ≤ l.length
  rest : byt r.2 ∧ r.2.length ≤ l.length

theorem split_loop {l : List Int} (hb : byt l) (hl : l.length ≤ 100000000) : ∀ (m a : Nat) (out : List (List Int)), l.length - a ≤ m → a ≤ l.length → out.length ≤ a → (∀ x ∈ out, byt x ∧ x.length ≤ l.length) →
    ∃ r, script_Split_l2 l out a = some r ∧ ref30_Split_l2 (l.drop a) out = some r ∧ Fr l r := by
  intro m
  induction m with
  | zero =>
    intro a out hm ha ho hx
    have hd : l.drop a = [] := List.drop_eq_nil_of_le (by omega)
    refine ⟨(out, []), ?_, ?_, ⟨hx, (show out.length ≤ l.length by omega), (fun _ h => by cases h), Nat.zero_le _⟩⟩
    · unfold script_Split_l2
      refine loop_inr ?_
      unfold script_Split_l2s
      simp only []
      have e : rdA l a = (0, 0, false) := by unfold rdA; rw [hd]; rfl
      rw [codec_read hb (by omega) ha, e, Option.bind_some]
      simp only [Bool.not_false, Bool.true_or, cond_true]
      rw [ck_pos (by rw [decide_eq_true_eq]; omega), Int.toNat_natCast, hd, ck_pos (by decide)]
      rfl
    · unfold ref30_Split_l2
      refine loop_inr ?_
      unfold ref30_Split_l2s
      simp only []
      rw [hd]
      have hr : ref27_Read ([] : List Int) 0 = some (0, 0, false) := by
        have := ref_read27 (l := []) (fun _ h => by cases h) (by simp) (a := 0) (by simp)
        simpa [rdA, rd, rdN] using this
      rw [hr, Option.bind_some]
      rfl
  | succ m ih =>
    intro a out hm ha ho hx
    have hbd : byt (l.drop a) := byt_drop hb a
    have hld : (l.drop a).length = l.length - a := List.length_drop
    have h1 : codec_Read l a = some (rdA l a) := codec_read hb (by omega) ha
    have h2 : ref27_Read (l.drop a) 0 = some (rdA (l.drop a) 0) := ref_read27 hbd (by omega) (a := 0) (by omega)
    cases hr : rd (l.drop a) with
    | none =>
      have e1 : rdA l a = (0, 0, false) := by unfold rdA; rw [hr]
      have e2 : rdA (l.drop a) 0 = (0, 0, false) := by unfold rdA; rw [List.drop_zero, hr]
      refine ⟨(out, l.drop a), ?_, ?_, ⟨hx, (show out.length ≤ l.length by omega), hbd, (show (l.drop a).length ≤ l.length by omega)⟩⟩
      · unfold script_Split_l2
        refine loop_inr ?_
        unfold script_Split_l2s
        simp only []
        rw [h1, e1, Option.bind_some]
        simp only [Bool.not_false, Bool.true_or, cond_true]
        rw [ck_pos (by rw [decide_eq_true_eq]; omega), Int.toNat_natCast, ck_pos (by rw [decide_eq_true_eq, List.length_nil]; omega)]
        rfl
      · unfold ref30_Split_l2
        refine loop_inr ?_
        unfold ref30_Split_l2s
        simp only []
        rw [h2, e2, Option.bind_some]
        rfl
    | some p =>
      obtain ⟨n, k⟩ := p
      obtain ⟨w, hk, hc⟩ := rd_some hbd hr
      have hw := wf_i64.1 w
      have hk1 := code_len n
      have hkl : k ≤ l.length - a := by
        have := congrArg List.length hc
        rw [List.length_append, hld] at this
        omega
      have e1 : rdA l a = (n, ((a + k : Nat) : Int), true) := by unfold rdA; rw [hr]
      have e2 : rdA (l.drop a) 0 = (n, (k : Int), true) := by unfold rdA; rw [List.drop_zero, hr]; simp
      have q1 : w64 ((l.length : Int) - ((a + k : Nat) : Int)) = (l.length : Int) - ((a + k : Nat) : Int) := by rw [w64_id] <;> omega
      have q2 : w64 (((l.drop a).length : Int) - (k : Int)) = (l.length : Int) - ((a + k : Nat) : Int) := by rw [w64_id, hld] <;> omega
      by_cases hs : n < 0 ∨ n > 1048576 ∨ n > (l.length : Int) - ((a + k : Nat) : Int)
      · have c1 : ((((!true) || decide (n < 0)) || decide (n > 1048576)) || decide (n > (l.length : Int) - ((a + k : Nat) : Int))) = true := by
          simp only [Bool.not_true, Bool.false_or, Bool.or_eq_true, decide_eq_true_eq]; omega
        refine ⟨(out, l.drop a), ?_, ?_, ⟨hx, (show out.length ≤ l.length by omega), hbd, (show (l.drop a).length ≤ l.length by omega)⟩⟩
        · unfold script_Split_l2
          refine loop_inr ?_
          unfold script_Split_l2s
          simp only []
          rw [h1, e1, Option.bind_some]
          simp only []
          rw [q1, c1, cond_true, ck_pos (by rw [decide_eq_true_eq]; omega), Int.toNat_natCast, ck_pos (by rw [decide_eq_true_eq, List.length_nil]; omega)]
          rfl
        · unfold ref30_Split_l2
          refine loop_inr ?_
          unfold ref30_Split_l2s
          simp only []
          rw [h2, e2, Option.bind_some]
          simp only []
          rw [q2, c1, cond_true]
      · have c1 : ((((!true) || decide (n < 0)) || decide (n > 1048576)) || decide (n > (l.length : Int) - ((a + k : Nat) : Int))) = false := by
          simp only [Bool.not_true, Bool.false_or, Bool.or_eq_false_iff, decide_eq_false_iff_not]; omega
        obtain ⟨j, rfl⟩ := Int.eq_ofNat_of_zero_le (show 0 ≤ n by omega)
        have s1 : w64 (((a + k : Nat) : Int) + (j : Int)) = ((a + k + j : Nat) : Int) := by rw [w64_id] <;> omega
        have s2 : w64 ((k : Int) + (j : Int)) = ((k + j : Nat) : Int) := by rw [w64_id] <;> omega
        have f1 : (l.take (a + k + j)).drop (a + k) = (l.drop (a + k)).take j := by rw [List.drop_take]; congr 1; omega
        have f2 : ((l.drop a).take (k + j)).drop k = (l.drop (a + k)).take j := by rw [List.drop_take, List.drop_drop]; congr 1; omega
        have f3 : (l.drop a).drop (k + j) = l.drop (a + k + j) := by rw [List.drop_drop]; congr 1; omega
        have fl : ((l.drop (a + k)).take j).length ≤ l.length := by rw [List.length_take, List.length_drop]; omega
        obtain ⟨r, r1, r2, r3⟩ := ih (a + k + j) (out ++ [(l.drop (a + k)).take j]) (by omega) (by omega) (by rw [List.length_append, List.length_singleton]; omega) (fun x hx' => by
          rcases List.mem_append.1 hx' with h | h
          · exact hx x h
          · simp only [List.mem_singleton] at h
            subst h
            exact ⟨byt_take (byt_drop hb _) _, fl⟩)
        refine ⟨r, ?_, ?_, r3⟩
        · rw [← r1]
          unfold script_Split_l2
          refine loop_inl ?_
          unfold script_Split_l2s
          simp only []
          rw [h1, e1, Option.bind_some]
          simp only []
          rw [q1, c1, cond_false, s1, ck_pos (by rw [decide_eq_true_eq]; omega), Int.toNat_natCast, Int.toNat_natCast, f1, List.nil_append,
            ck_pos (by rw [decide_eq_true_eq, List.length_nil]; omega), ck_pos (by rw [decide_eq_true_eq, List.length_singleton]; omega)]
        · rw [← r2, ← f3]
          unfold ref30_Split_l2
          refine loop_inl ?_
          unfold ref30_Split_l2s
          simp only []
          rw [h2, e2, Option.bind_some]
          simp only []
          rw [q2, c1, cond_false, s2, ck_pos (by rw [decide_eq_true_eq]; omega), Int.toNat_natCast, Int.toNat_natCast, f2,
            ck_pos (by rw [decide_eq_true_eq, List.length_singleton]; omega), ck_pos (by rw [decide_eq_true_eq]; omega)]

theorem split_both {l : List Int} (hb : byt l) (hl : l.length ≤ 100000000) : ∃ r, script_Split l = some r ∧ ref30_Split l = some r ∧ Fr l r := by
  obtain ⟨r, h1, h2, h3⟩ := split_loop hb hl l.length 0 [] (by omega) (by omega) (by simp) (fun _ h => by cases h)
  rw [List.drop_zero] at h2
  exact ⟨r, h1, h2, h3⟩

/-- A frame. -/
def frameB (b : List Int) : List Int := code (b.length : Int) ++ b

theorem frame_prog {p b : List Int} (hl : p.length + b.length ≤ 1000000000) : script_frame p b = some (p ++ frameB b) := by
  have w : wfI .i64 (b.length : Int) := wf_i64.2 (by omega)
  have c := code_ten w
  unfold script_frame codec_Append_i1
  rw [List.nil_append, ck_pos (by rw [decide_eq_true_eq, List.length_nil]; omega), tape_append w (by omega), Option.bind_some, Option.bind_some, ck_pos (by rw [decide_eq_true_eq, List.length_append]; omega)]
  unfold frameB
  rw [List.append_assoc]

/-- The example. -/
def listC : api_Command := ⟨6, 0, ⟨0, 0, 0, 0, 0, 0, 0, 0⟩, 0, 0, [], ⟨0, 0, 0⟩, []⟩

theorem listC_ok : CmdOk listC := by
  refine ⟨fun x hx => ?_, (fun _ h => by cases h), by decide, by decide⟩
  rw [wf_i64]
  have : x = 6 ∨ x = 0 := by
    simp [cmdN, cfgN, listC] at hx
    omega
  omega

theorem code_small {n : Int} (h0 : 0 ≤ n) (h1 : n < 64) : code n = [2 * n] := by
  unfold code zz
  rw [if_pos h0, cb_lt (by omega)]
  congr 1
  omega

theorem listC_code : wr (cmdN listC) = [12, 0, 0, 0, 0, 0, 0, 0, 0, 0, 0, 0, 0, 0, 0, 0, 0] := by
  have e6 : code 6 = [12] := code_small (by decide) (by decide)
  have e0 : code 0 = [0] := code_small (by decide) (by decide)
  simp [cmdN, cfgN, listC, wr, e6, e0]

theorem law30_awake_true : law30_awake = some true := by
  have h1 : script_Join [listC] = some (34 :: [12, 0, 0, 0, 0, 0, 0, 0, 0, 0, 0, 0, 0, 0, 0, 0, 0], 0) := by
    unfold script_Join script_Join_l2
    have e17 : code 17 = [34] := code_small (by decide) (by decide)
    have s1 : script_Join_l2s [listC] [] 0 = some (.inl (34 :: [12, 0, 0, 0, 0, 0, 0, 0, 0, 0, 0, 0, 0, 0, 0, 0, 0], 1)) := by
      unfold script_Join_l2s
      have hx : idx [listC] 0 = some listC := rfl
      rw [decide_eq_true (by simp), cond_true, hx, Option.bind_some, enc_cmd listC_ok, Option.bind_some, listC_code]
      have e : encR [12, 0, 0, 0, 0, 0, 0, 0, 0, 0, 0, 0, 0, 0, 0, 0, 0] = ([12, 0, 0, 0, 0, 0, 0, 0, 0, 0, 0, 0, 0, 0, 0, 0, 0], 0) := rfl
      rw [e]
      simp only [bne_self_eq_false, cond_false]
      rw [frame_prog (by simp), Option.bind_some]
      have ef : frameB [12, 0, 0, 0, 0, 0, 0, 0, 0, 0, 0, 0, 0, 0, 0, 0, 0] = 34 :: [12, 0, 0, 0, 0, 0, 0, 0, 0, 0, 0, 0, 0, 0, 0, 0, 0] := by
        unfold frameB
        have : ((([12, 0, 0, 0, 0, 0, 0, 0, 0, 0, 0, 0, 0, 0, 0, 0, 0] : List Int).length : Nat) : Int) = 17 := rfl
        rw [this, e17]; rfl
      rw [ef, List.nil_append]
      rfl
    rw [loop_inl s1]
    refine loop_inr ?_
    unfold script_Join_l2s
    rfl
  unfold law30_awake
  have h2 : script_Join [(api_Command.mk (6:Int) (0:Int) (api_Config.mk (0:Int) (0:Int) (0:Int) (0:Int) (0:Int) (0:Int) (0:Int) (0:Int)) (0:Int) (0:Int) ([] : List Int) (api_Query.mk (0:Int) (0:Int) (0:Int)) ([] : List Int))] = _ := h1
  rw [h2]
  rfl

theorem wfL_byt {l : List Int} (h : wfL (wfI .u8) l) : byt l := fun x hx => wf_u8.1 (h.2 x hx)

end Go.Win

