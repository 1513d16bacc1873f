/- Pu: chapter 30: frames; the statement ScriptSplits. -/
import Derived.Test.YtmipeaidieflmaaPuEnc
set_option linter.unusedVariables false
set_option linter.unusedSimpArgs false
set_option linter.unnecessarySimpa false
set_option linter.unusedSectionVars false
namespace Go.Win
open Go.Vc Go.Dec

theorem codec_read {l : List Int} (hb : byt l) (hl : l.length ≤ 1099511627776) {a : Nat} (ha : a ≤ l.length) : codec_Read l a = some (rdA l a) := by
  unfold codec_Read
  rw [tape_read hb hl ha, Option.bind_some]

/-- A frame. -/
def frameB (b : List Int) : List Int := code (b.length : Int) ++ b

theorem frame_prog {p b : List Int} (hl : p.length + b.length ≤ 1000000000) : script_frame p b = some (p ++ frameB b) := by
  have w : wfI .i64 (b.length : Int) := wf_i64.2 (by omega)
  have c := code_ten w
  unfold script_frame codec_Append_i1
  rw [List.nil_append, ck_pos (by rw [decide_eq_true_eq, List.length_nil]; omega), tape_append w (by omega), Option.bind_some, Option.bind_some, ck_pos (by rw [decide_eq_true_eq, List.length_append]; omega)]
  unfold frameB
  rw [List.append_assoc]

theorem ref_append_i1 (n : Int) : ref27_Append_i1 n = ref27_Append [] n := rfl

theorem frame_ref {b : List Int} (hl : b.length ≤ 1000000000) : ref30_Frame b = some (frameB b) := by
  have w : wfI .i64 (b.length : Int) := wf_i64.2 (by omega)
  have c := code_ten w
  unfold ref30_Frame
  rw [ref_append_i1, ref_append w (by rw [List.length_nil]; omega), Option.bind_some, List.nil_append, ck_pos (by rw [decide_eq_true_eq]; omega)]
  rfl

/-- The example. -/
def listC : api_Command := ⟨6, 0, ⟨0, 0, 0, 0, 0, 0, 0, 0⟩, 0, 0, [], ⟨0, 0, 0⟩, []⟩

theorem listC_ok : CmdOk listC := by
  refine ⟨fun x hx => ?_, (fun _ h => by cases h), by decide, by decide⟩
  rw [wf_i64]
  have : x = 6 ∨ x = 0 := by
    simp [cmdN, cfgN, listC] at hx
    omega
  omega

theorem code_small {n : Int} (h0 : 0 ≤ n) (h1 : n < 64) : code n = [2 * n] := by
  unfold code zz
  rw [if_pos h0, cb_lt (by omega)]
  congr 1
  omega

theorem listC_code : wr (cmdN listC) = [12, 0, 0, 0, 0, 0, 0, 0, 0, 0, 0, 0, 0, 0, 0, 0, 0] := by
  have e6 : code 6 = [12] := code_small (by decide) (by decide)
  have e0 : code 0 = [0] := code_small (by decide) (by decide)
  simp [cmdN, cfgN, listC, wr, e6, e0]

theorem law30_awake_true : law30_awake = some true := by
  have h1 : script_Join [listC] = some (34 :: [12, 0, 0, 0, 0, 0, 0, 0, 0, 0, 0, 0, 0, 0, 0, 0, 0], 0) := by
    unfold script_Join script_Join_l2
    have e17 : code 17 = [34] := code_small (by decide) (by decide)
    have s1 : script_Join_l2s [listC] [] 0 = some (.inl (34 :: [12, 0, 0, 0, 0, 0, 0, 0, 0, 0, 0, 0, 0, 0, 0, 0, 0], 1)) := by
      unfold script_Join_l2s
      have hx : idx [listC] 0 = some listC := rfl
      rw [decide_eq_true (by simp), cond_true, hx, Option.bind_some, enc_cmd listC_ok, Option.bind_some, listC_code]
      have e : encR [12, 0, 0, 0, 0, 0, 0, 0, 0, 0, 0, 0, 0, 0, 0, 0, 0] = ([12, 0, 0, 0, 0, 0, 0, 0, 0, 0, 0, 0, 0, 0, 0, 0, 0], 0) := rfl
      rw [e]
      simp only [bne_self_eq_false, cond_false]
      rw [frame_prog (by simp), Option.bind_some]
      have ef : frameB [12, 0, 0, 0, 0, 0, 0, 0, 0, 0, 0, 0, 0, 0, 0, 0, 0] = 34 :: [12, 0, 0, 0, 0, 0, 0, 0, 0, 0, 0, 0, 0, 0, 0, 0, 0] := by
        unfold frameB
        have : ((([12, 0, 0, 0, 0, 0, 0, 0, 0, 0, 0, 0, 0, 0, 0, 0, 0] : List Int).length : Nat) : Int) = 17 := rfl
        rw [this, e17]; rfl
      rw [ef, List.nil_append]
      rfl
    rw [loop_inl s1]
    refine loop_inr ?_
    unfold script_Join_l2s
    rfl
  unfold law30_awake
  have h2 : script_Join [(api_Command.mk (6:Int) (0:Int) (api_Config.mk (0:Int) (0:Int) (0:Int) (0:Int) (0:Int) (0:Int) (0:Int) (0:Int)) (0:Int) (0:Int) ([] : List Int) (api_Query.mk (0:Int) (0:Int) (0:Int)) ([] : List Int))] = _ := h1
  rw [h2]
  rfl

theorem same_refl (l : List Int) : ref27_SameBytes l l = some true := by
  unfold ref27_SameBytes
  rw [beq_self_eq_true]

theorem wfL_byt {l : List Int} (h : wfL (wfI .u8) l) : byt l := fun x hx => wf_u8.1 (h.2 x hx)

end Go.Win

