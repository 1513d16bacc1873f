/- The law ChainUniform of package windowpanelaw18 answers true at every input, and leaves its arguments as they were. Conditions: none. -/
import Derived.Test.YtfnkbbeeilpiiaaRows
import Derived.Test.YtfnkbbeeilpiiaaCon
import Derived.Test.YtfnkbbeeilpiiaaVc
import Derived.Test.YtfnkbbeeilpiiaaPuUni
import Derived.ProofKit
import Derived.OpenShut
set_option linter.unusedVariables false
namespace Go.Proofs.Ytfnkbbeeilpiiaa.chainUniform
open Go.Vc Go.Dec Go.Win Go.ChangeShapes Go.WideShapes Go.ChangeAt Go.RowKit

theorem own : ownKnob Try.prog.godebug = none := by kernel_rfl
theorem laidOut : laidOutB Try.prog = true := by kernel_rfl
theorem cells2 : Try.prog.cellsOf 2 = 1 := by kernel_rfl

theorem open2 {H : Type} {enc : TypeId × Value → H} {w : World} {base : Nat} {spare : Nat → Bool} {held : Bool} {fuel : Nat} {cs : List Value} {x : DataW H × List MemPlace} (h : DataW.trod enc Try.prog w base spare held fuel 2 cs = some x) : ∃ y : Int, F2 (LR w) (eI .i64 y) cs ∧ wfI .i64 y := open_i Try.underlying2 h

theorem walk (w : World) (p0 : Int) (w0 : wfI .i64 p0) (p1 : Int) (w1 : wfI .i64 p1) : Calls Try.prog 13 #[.int .i64 p0, .int .i64 p1] w fun e w' => e = .returned (.bool true) ∧ (Grown w w' ∧ Below w.heap.size w w') :=
  (c_law18_ChainUniform p0 p1 true (law18_ChainUniform_true p0 p1 w0 w1)).law2 Try.call13 w _ rfl (fun i c hi => by
    match i, hi with
    | 0, hi => cases hi; exact ⟨_, rfl, rfl⟩
    | 1, hi => cases hi; exact ⟨_, rfl, rfl⟩)

set_option maxRecDepth 100000 in
theorem lifted (os : Os) (started : os.Started) (H : Type) (enc : TypeId × Value → H) :
    ReturnsInHanded {} Try.checked os 13 .any (Rows.chainUniformSpec.pre6 enc Try.prog Try.f13 Rows.chainUniformRow.domain false) (Rows.chainUniformSpec.post enc Try.prog Try.f13 false true false false) := by
  refine returnsInHanded_of_change (C := Try.checked) own started (by kernel_rfl) Try.func13
    (ChangeSpec.witness6 (enc := enc) (C := Try.checked) false ⟨#[], #[.int .i64 0, .int .i64 0], []⟩ 8 (by kernel_rfl) (by kernel_rfl) (by kernel_rfl) (by kernel_rfl)) ?_
  intro W base args ds gs before hval0 hW hcnd _
  have hval : ∀ (j : Nat) t v, Try.f13.params[j]? = some t → args[j]? = some v → Value.okWide Try.prog W .any base t v := hval0
  have hW' := hW
  obtain ⟨p, q, hA0, hV, rfl, hfz, hnd⟩ := hW
  have hA : DataW.TrodAll enc Try.prog W 0 (fun _ => true) true Try.f13.params.toList args.toList ds p := hA0
  rw [Try.params13] at hA hval
  obtain ⟨v0, vs0, d0, ds0, pl0, q0, hargs, rfl, rfl, h0, r0⟩ := trodAll_cons hA
  obtain ⟨v1, vs1, d1, ds1, pl1, q1, rfl, rfl, rfl, h1, r1⟩ := trodAll_cons r0
  obtain ⟨rfl, rfl, rfl⟩ := trodAll_nil r1
  obtain rfl : args = #[v0, v1] := by cases args; simp_all
  obtain ⟨rfl, rfl⟩ := trodVars_none hV
  obtain ⟨a0, rfl, rfl, rfl, w0⟩ := open_int Try.underlying2 (hval 0 2 v0 rfl rfl) h0
  obtain ⟨a1, rfl, rfl, rfl, w1⟩ := open_int Try.underlying2 (hval 1 2 v1 rfl rfl) h1
  clear hA0 hval0
  simp only [List.append_nil, List.nil_append] at hW'
  refine (walk W a0 w0 a1 w1).mono fun e W' ⟨he, hg, hb⟩ => ?_
  subst he
  exact ⟨_, rfl, post_of_same (pa := []) (pv := []) hW' (fun _ _ _ => (trodAll_cons_mk (shut_bool Try.underlying4 _) trodAll_mk0))
    (fun sp hsp => by
      have : DataW.TrodAll enc Try.prog W' 0 sp true [2, 2] [.int .i64 a0, .int .i64 a1] [.lit (.int .i64 a0), .lit (.int .i64 a1)] _ := (trodAll_cons_mk (shut_int Try.underlying2 w0) (trodAll_cons_mk (shut_int Try.underlying2 w1) trodAll_mk0))
      have h2 : DataW.TrodAll enc Try.prog W' 0 sp true [2, 2] [.int .i64 a0, .int .i64 a1] [.lit (.int .i64 a0), .lit (.int .i64 a1)] ([]) := by simpa using this
      exact h2) (fun _ _ => rfl) (by simp)
    (hg.frame _) hg.2.1 (ok_one (by kernel_rfl) rfl (okWide_bool_mk Try.underlying4 _))⟩

theorem over : Rows.chainUniformRow.holds Try.pinned (OpenSpec.ofChange Rows.chainUniformSpec) :=
  OpenClaim.holds_of_wide 13 Try.f13 rfl rfl rfl rfl rfl rfl rfl ⟨rfl, rfl, rfl, rfl, rfl⟩ rfl rfl rfl rfl rfl (by kernel_rfl) Try.func13 (by kernel_rfl)
    (of_decide_eq_true (by kernel_rfl)) (by unfold Func.isWrapper; first | (rw [if_pos (by decide +kernel)]; kernel_rfl) | (rw [if_neg (by decide +kernel)]; exact ⟨rfl, rfl⟩))
    (fun os started H enc _ => lifted os started H enc)

theorem proved : Rows.ChainUniformSaid :=
  over
#print axioms proved
end Go.Proofs.Ytfnkbbeeilpiiaa.chainUniform
