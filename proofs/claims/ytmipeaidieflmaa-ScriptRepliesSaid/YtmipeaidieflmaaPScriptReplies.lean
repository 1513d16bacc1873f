/- The law ScriptReplies of package windowpanelaw30 answers true at every input, and leaves its arguments as they were. Conditions: none. -/
import Derived.Test.YtmipeaidieflmaaRows
import Derived.Test.YtmipeaidieflmaaFScriptReplies
import Derived.Test.YtmipeaidieflmaaCon
import Derived.Test.YtmipeaidieflmaaVc
import Derived.Test.YtmipeaidieflmaaPuRep
import Derived.ProofKit
import Derived.OpenShut
set_option linter.unusedVariables false
set_option linter.unusedSimpArgs false
namespace Go.Proofs.Ytmipeaidieflmaa.scriptReplies
open Go.Vc Go.Dec Go.Win Go.ChangeShapes Go.WideShapes Go.ChangeAt Go.RowKit

theorem own : ownKnob Try.prog.godebug = none := by kernel_rfl
theorem laidOut : laidOutB Try.prog = true := by kernel_rfl
theorem cells5 : Try.prog.cellsOf 5 = 1 := by kernel_rfl
theorem cells25 : Try.prog.cellsOf 25 = 1 := by kernel_rfl

def Op {α : Type} (t : TypeId) (E : α → List AV) (W : α → Prop) : Prop := ∀ {H : Type} {enc : TypeId × Value → H} {w : World} {base : Nat} {spare : Nat → Bool} {held : Bool} {fuel : Nat} {cs : List Value} {x : DataW H × List MemPlace}, DataW.trod enc Try.prog w base spare held fuel t cs = some x → ∃ y : α, F2 (LR w) (E y) cs ∧ W y
theorem fO {α : Type} {t : TypeId} {E : α → List AV} {W : α → Prop} (hop : Op t E W) {H : Type} {enc : TypeId × Value → H} {w : World} {base : Nat} {spare : Nat → Bool} {held : Bool} {fs : Array Field} {n : Nat} {cs : List Value} {xs : List (DataW H × List MemPlace)} (hlen : xs.length = fs.size)
    (hf : ∀ (i : Nat) (f : Field), fs[i]? = some f → DataW.trod enc Try.prog w base spare held n f.type ((cs.drop f.offset).take (Try.prog.cellsOf f.type)) = xs[i]?) (i : Nat) (f : Field) (hi : fs[i]? = some f) (o k : Nat) (ht : f.type = t) (ho : f.offset = o) (hk : Try.prog.cellsOf t = k) : ∃ y, F2 (LR w) (E y) ((cs.drop o).take k) ∧ W y :=
  let ⟨_, g⟩ := fieldS hlen hf i f hi o k ht ho hk; hop g
theorem open5 : Op 5 (eI .u8) (wfI .u8) := fun h => open_i Try.underlying5 h
theorem open25 : Op 25 (eL 1 (eI .u8)) (wfL (wfI .u8)) := fun h => open_s (eI .u8) (wfI .u8) 1 Try.underlying25 cells5 (by decide) (fun _ => rfl) (fun _ _ _ h => open5 h) h

theorem walk (w : World) (p0 : (List Int)) (v0 : Value) (r0 : F2 (LR w) (eL 1 (eI .u8) p0) [v0]) (w0 : (wfL (wfI .u8)) p0) : Calls Try.prog 5 #[v0] w fun e w' => e = .returned (.bool true) ∧ Below w.heap.size w w' :=
  (c_law30_ScriptReplies p0 true (law30_ScriptReplies_true p0 w0)).law2 Try.call5 w _ rfl (fun i c hi => by
    match i, hi with
    | 0, hi => cases hi; exact ⟨_, rfl, vr1_one r0⟩)

set_option maxRecDepth 100000 in
theorem lifted (os : Os) (started : os.Started) (H : Type) (enc : TypeId × Value → H) :
    ReturnsInHanded {} Try.checked os 5 .any (Rows.scriptRepliesSpec.pre6 enc Try.prog Try.f5 Rows.scriptRepliesRow.domain false) (Rows.scriptRepliesSpec.post enc Try.prog Try.f5 false true false false) := by
  refine returnsInHanded_of_change (C := Try.checked) own started (by kernel_rfl) Try.func5
    (ChangeSpec.witness6 (enc := enc) (C := Try.checked) false ⟨#[], #[.slice none 0 0], []⟩ 8 (by kernel_rfl) (by kernel_rfl) (by kernel_rfl) (by kernel_rfl)) ?_
  intro W base args ds gs before hval0 hW hcnd _
  have hval : ∀ (j : Nat) t v, Try.f5.params[j]? = some t → args[j]? = some v → Value.okWide Try.prog W .any base t v := hval0
  have hW' := hW
  obtain ⟨p, q, hA0, hV, rfl, hfz, hnd⟩ := hW
  have hA : DataW.TrodAll enc Try.prog W 0 (fun _ => true) true Try.f5.params.toList args.toList ds p := hA0
  rw [Try.params5] at hA hval
  obtain ⟨v0, vs0, d0, ds0, pl0, q0, hargs, rfl, rfl, h0, r0⟩ := trodAll_cons hA
  obtain ⟨rfl, rfl, rfl⟩ := trodAll_nil r0
  obtain rfl : args = #[v0] := by cases args; simp_all
  obtain ⟨rfl, rfl⟩ := trodVars_none hV
  obtain ⟨ad0, len0, cap0, rfl⟩ := okWide_slice Try.underlying25 (hval 0 25 v0 rfl rfl)
  have hk0 := h0
  obtain ⟨fuel0, hf0⟩ := h0
  obtain ⟨a0, ra0, wa0⟩ := open25 hf0
  clear hA0 hval0
  simp only [List.append_nil, List.nil_append] at hW'
  have hlt0 : ∀ x ∈ pl0, x.block < W.heap.size := fun x hx => hW'.lt x (by simp [hx])
  refine (walk W a0 _ ra0 wa0).mono fun e W' ⟨he, hb⟩ => ?_
  subst he
  exact ⟨_, rfl, post_of_below (pa := pl0) (pv := []) hW' (fun _ _ _ => (trodAll_cons_mk (shut_bool Try.underlying4 _) trodAll_mk0))
    (fun sp hsp => by
      have : DataW.TrodAll enc Try.prog W' 0 sp true [25] [Value.slice ad0 len0 cap0] [d0] _ := (trodAll_cons_mk (arg_stays laidOut (by kernel_rfl) (of_decide_eq_true (by kernel_rfl)) hk0 hb hlt0 (fun x hx => hsp x (by simp [hx]))) trodAll_mk0)
      have h2 : DataW.TrodAll enc Try.prog W' 0 sp true [25] [Value.slice ad0 len0 cap0] [d0] (pl0) := by simpa using this
      exact h2) (fun _ _ => rfl) (by simp) hb
    (ok_one (by kernel_rfl) rfl (okWide_bool_mk Try.underlying4 _))⟩

theorem named : Try.pinned.checked.prog.funcNamed Rows.scriptRepliesRow.func = some 5 := by kernel_rfl
theorem inst : Try.f5.isInstance Try.pinned.checked.prog Rows.scriptRepliesRow.origin Rows.scriptRepliesRow.targs := of_decide_eq_true (by kernel_rfl)
theorem wrap : Try.f5.isWrapper Try.pinned.checked.prog Rows.scriptRepliesRow.wrapper Rows.scriptRepliesRow.mainSum := by unfold Func.isWrapper; first | (rw [if_pos (by decide +kernel)]; kernel_rfl) | (rw [if_neg (by decide +kernel)]; exact ⟨rfl, rfl⟩)
theorem over : Rows.scriptRepliesRow.holds Try.pinned (OpenSpec.ofChange Rows.scriptRepliesSpec) :=
  OpenClaim.holds_of_wide 5 Try.f5 rfl rfl rfl rfl rfl rfl rfl ⟨rfl, rfl, rfl, rfl, rfl⟩ rfl rfl rfl rfl rfl named Try.func5 joined inst wrap
    (fun os started H enc _ => lifted os started H enc)

theorem proved : Rows.ScriptRepliesSaid :=
  over
#print axioms proved
end Go.Proofs.Ytmipeaidieflmaa.scriptReplies
