/- The law ExactExtremes of windowpanelaw08 answers true at every input, and leaves its argument as it was. Conditions: none. The frame follows the kit's template. -/
import Derived.Test.YtfnkbbeeilpiiaaRows
import Derived.Test.YtfnkbbeeilpiiaaK12
import Derived.Test.YtfnkbbeeilpiiaaVc29
import Derived.ProofKit
import Derived.OpenShut
namespace Go.Proofs.Ytfnkbbeeilpiiaa.exactExtremes
open Go.Vc Go.ChangeShapes Go.WideShapes Go.ChangeAt Go.RowKit
set_option linter.unusedVariables false

theorem own : ownKnob Try.prog.godebug = none := by kernel_rfl
theorem laidOut : laidOutB Try.prog = true := by kernel_rfl
theorem cells2 : Try.prog.cellsOf 2 = 1 := by kernel_rfl
theorem cells43 : Try.prog.cellsOf 43 = 2 := by kernel_rfl

theorem walk (v : Value) (w : World) (h : ∃ l : List (Int × Int), VR1 (lawMem w) (.lst 2 false (pairs .i64 .i64 l)) v ∧ ∀ p ∈ l, (Lit.int .i64 p.1).wf = true ∧ (Lit.int .i64 p.2).wf = true) :
    Calls Try.prog 4 #[v] w fun e w' => e = .returned (.bool true) ∧ (Grown w w' ∧ Below w.heap.size w w') := by
  obtain ⟨l, h, _⟩ := h
  exact (c4 false l).law2 w _ rfl (fun i c hi => by
    match i, hi with
    | 0, hi => cases hi; exact ⟨v, rfl, h⟩)

set_option maxRecDepth 100000 in
theorem lifted (os : Os) (started : os.Started) (H : Type) (enc : TypeId × Value → H) :
    ReturnsInHanded {} Try.checked os 4 .any (Rows.exactExtremesSpec.pre6 enc Try.prog Try.f4 Rows.exactExtremesRow.domain false) (Rows.exactExtremesSpec.post enc Try.prog Try.f4 false true false false) := by
  refine returnsInHanded_of_change (C := Try.checked) own started (by kernel_rfl) Try.func4
    (ChangeSpec.witness6 (enc := enc) (C := Try.checked) false ⟨#[], #[.slice none 0 0], []⟩ 8 (by kernel_rfl) (by kernel_rfl) (by kernel_rfl) (by kernel_rfl)) ?_
  intro W base args ds gs before hval0 hW hcnd _
  have hval : ∀ (j : Nat) t v, Try.f4.params[j]? = some t → args[j]? = some v → Value.okWide Try.prog W .any base t v := hval0
  have hW' := hW
  obtain ⟨p, q, hA0, hV, rfl, hfz, hnd⟩ := hW
  have hA : DataW.TrodAll enc Try.prog W 0 (fun _ => true) true Try.f4.params.toList args.toList ds p := hA0
  rw [Try.params4] at hA hval
  obtain ⟨v0, vs0, d0, ds0, p0, q0, hargs, rfl, rfl, h0, r0⟩ := trodAll_cons hA
  obtain ⟨rfl, rfl, rfl⟩ := trodAll_nil r0
  obtain rfl : args = #[v0] := by cases args; simp_all
  obtain ⟨rfl, rfl⟩ := trodVars_none hV
  obtain ⟨a0, len, cap, rfl⟩ := okWide_slice Try.underlying22 (hval 0 22 v0 rfl rfl)
  have h0k := h0
  obtain ⟨fuel, hf⟩ := h0
  have hop := open_pairs Try.underlying22 Try.underlying43 Try.underlying2 Try.underlying2 cells43 cells2 cells2 rfl rfl hf
  clear hA0 hval0
  simp only [List.append_nil] at hW'
  have hlt : ∀ x ∈ p0, x.block < W.heap.size := fun x hx => by simpa using hW'.lt x hx
  refine (walk _ W hop).mono fun e W' ⟨he, hg, hb⟩ => ?_
  subst he
  exact ⟨_, rfl, post_of_same (pa := p0) (pv := []) hW' (fun _ _ _ => (trodAll_cons_mk (shut_bool Try.underlying4 _) trodAll_mk0))
    (fun sp hsp => by
      have := trodAll_cons_mk (arg_stays laidOut (by kernel_rfl) (of_decide_eq_true (by kernel_rfl)) h0k hb hlt (fun x hx => hsp x (by simpa using hx))) trodAll_mk0
      have h2 : DataW.TrodAll enc Try.prog W' 0 sp true [22] [Value.slice a0 len cap] [d0] p0 := by simpa using this
      exact h2) (fun _ _ => rfl) (by simp)
    (hg.frame _) hg.2.1 (ok_one (by kernel_rfl) rfl (okWide_bool_mk Try.underlying4 _))⟩

theorem over : Rows.exactExtremesRow.holds Try.pinned (OpenSpec.ofChange Rows.exactExtremesSpec) :=
  OpenClaim.holds_of_wide 4 Try.f4 rfl rfl rfl rfl rfl rfl rfl ⟨rfl, rfl, rfl, rfl, rfl⟩ rfl rfl rfl rfl rfl (by kernel_rfl) Try.func4 (by kernel_rfl)
    (of_decide_eq_true (by kernel_rfl)) (by unfold Func.isWrapper; first | (rw [if_pos (by decide +kernel)]; kernel_rfl) | (rw [if_neg (by decide +kernel)]; exact ⟨rfl, rfl⟩))
    (fun os started H enc _ => lifted os started H enc)

theorem proved : Rows.ExactExtremesSaid :=
  over
#print axioms proved
end Go.Proofs.Ytfnkbbeeilpiiaa.exactExtremes
