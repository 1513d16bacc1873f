/- The law RegistryMap of package windowpanelaw26 answers true at every input, and leaves its arguments as they were. Conditions: none. -/
import Derived.Test.YtinffhpeahlhoaaRows
import Derived.Test.YtinffhpeahlhoaaFRegistryMap
import Derived.Test.YtinffhpeahlhoaaCon
import Derived.Test.YtinffhpeahlhoaaVc
import Derived.Test.YtinffhpeahlhoaaPuRm
import Derived.ProofKit
import Derived.OpenShut
set_option linter.unusedVariables false
namespace Go.Proofs.Ytinffhpeahlhoaa.registryMap
open Go.Vc Go.Dec Go.Win Go.ChangeShapes Go.WideShapes Go.ChangeAt Go.RowKit

theorem own : ownKnob Try.prog.godebug = none := by kernel_rfl
theorem laidOut : laidOutB Try.prog = true := by kernel_rfl
theorem cells2 : Try.prog.cellsOf 2 = 1 := by kernel_rfl
theorem cells28 : Try.prog.cellsOf 28 = 1 := by kernel_rfl
theorem cells3 : Try.prog.cellsOf 3 = 1 := by kernel_rfl

def Op {α : Type} (t : TypeId) (E : α → List AV) (W : α → Prop) : Prop := ∀ {H : Type} {enc : TypeId × Value → H} {w : World} {base : Nat} {spare : Nat → Bool} {held : Bool} {fuel : Nat} {cs : List Value} {x : DataW H × List MemPlace}, DataW.trod enc Try.prog w base spare held fuel t cs = some x → ∃ y : α, F2 (LR w) (E y) cs ∧ W y
theorem fO {α : Type} {t : TypeId} {E : α → List AV} {W : α → Prop} (hop : Op t E W) {H : Type} {enc : TypeId × Value → H} {w : World} {base : Nat} {spare : Nat → Bool} {held : Bool} {fs : Array Field} {n : Nat} {cs : List Value} {xs : List (DataW H × List MemPlace)} (hlen : xs.length = fs.size)
    (hf : ∀ (i : Nat) (f : Field), fs[i]? = some f → DataW.trod enc Try.prog w base spare held n f.type ((cs.drop f.offset).take (Try.prog.cellsOf f.type)) = xs[i]?) (i : Nat) (f : Field) (hi : fs[i]? = some f) (o k : Nat) (ht : f.type = t) (ho : f.offset = o) (hk : Try.prog.cellsOf t = k) : ∃ y, F2 (LR w) (E y) ((cs.drop o).take k) ∧ W y :=
  let ⟨_, g⟩ := fieldS hlen hf i f hi o k ht ho hk; hop g
theorem open2 : Op 2 (eI .i64) (wfI .i64) := fun h => open_i Try.underlying2 h
theorem open28 : Op 28 (eL 1 (eI .i64)) (wfL (wfI .i64)) := fun h => open_s (eI .i64) (wfI .i64) 1 Try.underlying28 cells2 (by decide) (fun _ => rfl) (fun _ _ _ h => open2 h) h
theorem open3 : Op 3 (eI .i64) (wfI .i64) := fun h => open_i Try.underlying3 h

theorem walk (w : World) (p0 : (List Int)) (v0 : Value) (r0 : F2 (LR w) (eL 1 (eI .i64) p0) [v0]) (w0 : (wfL (wfI .i64)) p0) (p1 : Int) (w1 : wfI .i64 p1) : Calls Try.prog 4 #[v0, .int .i64 p1] w fun e w' => e = .returned (.bool true) ∧ Below w.heap.size w w' :=
  (c_law26_RegistryMap p0 p1 true (law26_RegistryMap_true p0 p1 w0 w1)).law2 Try.call4 w _ rfl (fun i c hi => by
    match i, hi with
    | 0, hi => cases hi; exact ⟨_, rfl, vr1_one r0⟩
    | 1, hi => cases hi; exact ⟨_, rfl, rfl⟩)

set_option maxRecDepth 100000 in
theorem lifted (os : Os) (started : os.Started) (H : Type) (enc : TypeId × Value → H) :
    ReturnsInHanded {} Try.checked os 4 .any (Rows.registryMapSpec.pre6 enc Try.prog Try.f4 Rows.registryMapRow.domain false) (Rows.registryMapSpec.post enc Try.prog Try.f4 false true false false) := by
  refine returnsInHanded_of_change (C := Try.checked) own started (by kernel_rfl) Try.func4
    (ChangeSpec.witness6 (enc := enc) (C := Try.checked) false ⟨#[], #[.slice none 0 0, .int .i64 0], []⟩ 8 (by kernel_rfl) (by kernel_rfl) (by kernel_rfl) (by kernel_rfl)) ?_
  intro W base args ds gs before hval0 hW hcnd _
  have hval : ∀ (j : Nat) t v, Try.f4.params[j]? = some t → args[j]? = some v → Value.okWide Try.prog W .any base t v := hval0
  have hW' := hW
  obtain ⟨p, q, hA0, hV, rfl, hfz, hnd⟩ := hW
  have hA : DataW.TrodAll enc Try.prog W 0 (fun _ => true) true Try.f4.params.toList args.toList ds p := hA0
  rw [Try.params4] at hA hval
  obtain ⟨v0, vs0, d0, ds0, pl0, q0, hargs, rfl, rfl, h0, r0⟩ := trodAll_cons hA
  obtain ⟨v1, vs1, d1, ds1, pl1, q1, rfl, rfl, rfl, h1, r1⟩ := trodAll_cons r0
  obtain ⟨rfl, rfl, rfl⟩ := trodAll_nil r1
  obtain rfl : args = #[v0, v1] := by cases args; simp_all
  obtain ⟨rfl, rfl⟩ := trodVars_none hV
  obtain ⟨ad0, len0, cap0, rfl⟩ := okWide_slice Try.underlying28 (hval 0 28 v0 rfl rfl)
  have hk0 := h0
  obtain ⟨fuel0, hf0⟩ := h0
  obtain ⟨a0, ra0, wa0⟩ := open28 hf0
  obtain ⟨a1, rfl, rfl, rfl, w1⟩ := open_int Try.underlying3 (hval 1 3 v1 rfl rfl) h1
  clear hA0 hval0
  simp only [List.append_nil, List.nil_append] at hW'
  have hlt0 : ∀ x ∈ pl0, x.block < W.heap.size := fun x hx => hW'.lt x (by simp [hx])
  refine (walk W a0 _ ra0 wa0 a1 w1).mono fun e W' ⟨he, hb⟩ => ?_
  subst he
  exact ⟨_, rfl, post_of_below (pa := pl0) (pv := []) hW' (fun _ _ _ => (trodAll_cons_mk (shut_bool Try.underlying4 _) trodAll_mk0))
    (fun sp hsp => by
      have : DataW.TrodAll enc Try.prog W' 0 sp true [28, 3] [Value.slice ad0 len0 cap0, .int .i64 a1] [d0, .lit (.int .i64 a1)] _ := (trodAll_cons_mk (arg_stays laidOut (by kernel_rfl) (of_decide_eq_true (by kernel_rfl)) hk0 hb hlt0 (fun x hx => hsp x (by simp [hx]))) (trodAll_cons_mk (shut_int Try.underlying3 w1) trodAll_mk0))
      have h2 : DataW.TrodAll enc Try.prog W' 0 sp true [28, 3] [Value.slice ad0 len0 cap0, .int .i64 a1] [d0, .lit (.int .i64 a1)] (pl0) := by simpa using this
      exact h2) (fun _ _ => rfl) (by simp) hb
    (ok_one (by kernel_rfl) rfl (okWide_bool_mk Try.underlying4 _))⟩

theorem named : Try.pinned.checked.prog.funcNamed Rows.registryMapRow.func = some 4 := by kernel_rfl
theorem inst : Try.f4.isInstance Try.pinned.checked.prog Rows.registryMapRow.origin Rows.registryMapRow.targs := of_decide_eq_true (by kernel_rfl)
theorem wrap : Try.f4.isWrapper Try.pinned.checked.prog Rows.registryMapRow.wrapper Rows.registryMapRow.mainSum := by unfold Func.isWrapper; first | (rw [if_pos (by decide +kernel)]; kernel_rfl) | (rw [if_neg (by decide +kernel)]; exact ⟨rfl, rfl⟩)
theorem over : Rows.registryMapRow.holds Try.pinned (OpenSpec.ofChange Rows.registryMapSpec) :=
  OpenClaim.holds_of_wide 4 Try.f4 rfl rfl rfl rfl rfl rfl rfl ⟨rfl, rfl, rfl, rfl, rfl⟩ rfl rfl rfl rfl rfl named Try.func4 joined inst wrap
    (fun os started H enc _ => lifted os started H enc)

theorem proved : Rows.RegistryMapSaid :=
  over
#print axioms proved
end Go.Proofs.Ytinffhpeahlhoaa.registryMap
