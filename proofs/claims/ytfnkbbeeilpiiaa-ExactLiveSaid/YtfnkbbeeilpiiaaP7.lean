/- The law ExactLive of windowpanelaw08 answers true at every input, and leaves its arguments as they were. Conditions: none. The frame follows the kit's template. -/
import Derived.Test.YtfnkbbeeilpiiaaRows
import Derived.Test.YtfnkbbeeilpiiaaK14
import Derived.Test.YtfnkbbeeilpiiaaVc29
import Derived.ProofKit
import Derived.OpenShut
namespace Go.Proofs.Ytfnkbbeeilpiiaa.exactLive
open Go.Vc Go.ChangeShapes Go.WideShapes Go.ChangeAt Go.RowKit
set_option linter.unusedVariables false

theorem own : ownKnob Try.prog.godebug = none := by kernel_rfl
theorem laidOut : laidOutB Try.prog = true := by kernel_rfl
theorem cells2 : Try.prog.cellsOf 2 = 1 := by kernel_rfl
theorem cells43 : Try.prog.cellsOf 43 = 2 := by kernel_rfl

theorem walk (v : Value) (a1 a2 : Int) (w : World) (h : ∃ l : List (Int × Int), VR1 (lawMem w) (.lst 2 false (pairs .i64 .i64 l)) v ∧ ∀ p ∈ l, (Lit.int .i64 p.1).wf = true ∧ (Lit.int .i64 p.2).wf = true) :
    Calls Try.prog 7 #[v, .int .i64 a1, .int .i64 a2] w fun e w' => e = .returned (.bool true) ∧ (Grown w w' ∧ Below w.heap.size w w') := by
  obtain ⟨l, h, _⟩ := h
  exact (c7 false l a1 a2).law2 w _ rfl (fun i c hi => by
    match i, hi with
    | 0, hi => cases hi; exact ⟨v, rfl, h⟩
    | 1, hi => cases hi; exact ⟨_, rfl, rfl⟩
    | 2, hi => cases hi; exact ⟨_, rfl, rfl⟩)

set_option maxRecDepth 100000 in
theorem lifted (os : Os) (started : os.Started) (H : Type) (enc : TypeId × Value → H) :
    ReturnsInHanded {} Try.checked os 7 .any (Rows.exactLiveSpec.pre6 enc Try.prog Try.f7 Rows.exactLiveRow.domain false) (Rows.exactLiveSpec.post enc Try.prog Try.f7 false true false false) := by
  refine returnsInHanded_of_change (C := Try.checked) own started (by kernel_rfl) Try.func7
    (ChangeSpec.witness6 (enc := enc) (C := Try.checked) false ⟨#[], #[.slice none 0 0, .int .i64 0, .int .i64 0], []⟩ 8 (by kernel_rfl) (by kernel_rfl) (by kernel_rfl) (by kernel_rfl)) ?_
  intro W base args ds gs before hval0 hW hcnd _
  have hval : ∀ (j : Nat) t v, Try.f7.params[j]? = some t → args[j]? = some v → Value.okWide Try.prog W .any base t v := hval0
  have hW' := hW
  obtain ⟨p, q, hA0, hV, rfl, hfz, hnd⟩ := hW
  have hA : DataW.TrodAll enc Try.prog W 0 (fun _ => true) true Try.f7.params.toList args.toList ds p := hA0
  rw [Try.params7] at hA hval
  obtain ⟨v0, vs0, d0, ds0, p0, q0, hargs, rfl, rfl, h0, r0⟩ := trodAll_cons hA
  obtain ⟨v1, vs1, d1, ds1, p1, q1, rfl, rfl, rfl, h1, r1⟩ := trodAll_cons r0
  obtain ⟨v2, vs2, d2, ds2, p2, q2, rfl, rfl, rfl, h2, r2⟩ := trodAll_cons r1
  obtain ⟨rfl, rfl, rfl⟩ := trodAll_nil r2
  obtain rfl : args = #[v0, v1, v2] := by cases args; simp_all
  obtain ⟨rfl, rfl⟩ := trodVars_none hV
  obtain ⟨a0, len, cap, rfl⟩ := okWide_slice Try.underlying22 (hval 0 22 v0 rfl rfl)
  obtain ⟨a1, rfl, rfl, rfl, w1⟩ := open_int Try.underlying2 (hval 1 2 v1 rfl rfl) h1
  obtain ⟨a2, rfl, rfl, rfl, w2⟩ := open_int Try.underlying2 (hval 2 2 v2 rfl rfl) h2
  have h0k := h0
  obtain ⟨fuel, hf⟩ := h0
  have hop := open_pairs Try.underlying22 Try.underlying43 Try.underlying2 Try.underlying2 cells43 cells2 cells2 rfl rfl hf
  clear hA0 hval0
  simp only [List.append_nil] at hW'
  have hlt : ∀ x ∈ p0, x.block < W.heap.size := fun x hx => by simpa using hW'.lt x hx
  refine (walk _ a1 a2 W hop).mono fun e W' ⟨he, hg, hb⟩ => ?_
  subst he
  exact ⟨_, rfl, post_of_same (pa := p0) (pv := []) hW' (fun _ _ _ => (trodAll_cons_mk (shut_bool Try.underlying4 _) trodAll_mk0))
    (fun sp hsp => by
      have := trodAll_cons_mk (arg_stays laidOut (by kernel_rfl) (of_decide_eq_true (by kernel_rfl)) h0k hb hlt (fun x hx => hsp x (by simpa using hx))) (trodAll_cons_mk (shut_int Try.underlying2 w1) (trodAll_cons_mk (shut_int Try.underlying2 w2) trodAll_mk0))
      have h2 : DataW.TrodAll enc Try.prog W' 0 sp true [22, 2, 2] [Value.slice a0 len cap, .int .i64 a1, .int .i64 a2] [d0, .lit (.int .i64 a1), .lit (.int .i64 a2)] p0 := by simpa using this
      exact h2) (fun _ _ => rfl) (by simp)
    (hg.frame _) hg.2.1 (ok_one (by kernel_rfl) rfl (okWide_bool_mk Try.underlying4 _))⟩

theorem over : Rows.exactLiveRow.holds Try.pinned (OpenSpec.ofChange Rows.exactLiveSpec) :=
  OpenClaim.holds_of_wide 7 Try.f7 rfl rfl rfl rfl rfl rfl rfl ⟨rfl, rfl, rfl, rfl, rfl⟩ rfl rfl rfl rfl rfl (by kernel_rfl) Try.func7 (by kernel_rfl)
    (of_decide_eq_true (by kernel_rfl)) (by unfold Func.isWrapper; first | (rw [if_pos (by decide +kernel)]; kernel_rfl) | (rw [if_neg (by decide +kernel)]; exact ⟨rfl, rfl⟩))
    (fun os started H enc _ => lifted os started H enc)

theorem proved : Rows.ExactLiveSaid :=
  over
#print axioms proved
end Go.Proofs.Ytfnkbbeeilpiiaa.exactLive
