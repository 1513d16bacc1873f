/- The law ScriptJoins of package windowpanelaw30 answers true at every input, and leaves its arguments as they were. Conditions: none. -/
import Derived.Test.YtmipeaidieflmaaRows
import Derived.Test.YtmipeaidieflmaaFScriptJoins
import Derived.Test.YtmipeaidieflmaaCon
import Derived.Test.YtmipeaidieflmaaVc
import Derived.Test.YtmipeaidieflmaaPuJoin
import Derived.ProofKit
import Derived.OpenShut
set_option linter.unusedVariables false
set_option linter.unusedSimpArgs false
namespace Go.Proofs.Ytmipeaidieflmaa.scriptJoins
open Go.Vc Go.Dec Go.Win Go.ChangeShapes Go.WideShapes Go.ChangeAt Go.RowKit

theorem own : ownKnob Try.prog.godebug = none := by kernel_rfl
theorem laidOut : laidOutB Try.prog = true := by kernel_rfl
theorem cells3 : Try.prog.cellsOf 3 = 1 := by kernel_rfl
theorem cells2 : Try.prog.cellsOf 2 = 1 := by kernel_rfl
theorem cells34 : Try.prog.cellsOf 34 = 8 := by kernel_rfl
theorem cells35 : Try.prog.cellsOf 35 = 1 := by kernel_rfl
theorem cells37 : Try.prog.cellsOf 37 = 3 := by kernel_rfl
theorem cells5 : Try.prog.cellsOf 5 = 1 := by kernel_rfl
theorem cells25 : Try.prog.cellsOf 25 = 1 := by kernel_rfl
theorem cells39 : Try.prog.cellsOf 39 = 17 := by kernel_rfl
theorem cells22 : Try.prog.cellsOf 22 = 1 := by kernel_rfl

def Op {α : Type} (t : TypeId) (E : α → List AV) (W : α → Prop) : Prop := ∀ {H : Type} {enc : TypeId × Value → H} {w : World} {base : Nat} {spare : Nat → Bool} {held : Bool} {fuel : Nat} {cs : List Value} {x : DataW H × List MemPlace}, DataW.trod enc Try.prog w base spare held fuel t cs = some x → ∃ y : α, F2 (LR w) (E y) cs ∧ W y
theorem fO {α : Type} {t : TypeId} {E : α → List AV} {W : α → Prop} (hop : Op t E W) {H : Type} {enc : TypeId × Value → H} {w : World} {base : Nat} {spare : Nat → Bool} {held : Bool} {fs : Array Field} {n : Nat} {cs : List Value} {xs : List (DataW H × List MemPlace)} (hlen : xs.length = fs.size)
    (hf : ∀ (i : Nat) (f : Field), fs[i]? = some f → DataW.trod enc Try.prog w base spare held n f.type ((cs.drop f.offset).take (Try.prog.cellsOf f.type)) = xs[i]?) (i : Nat) (f : Field) (hi : fs[i]? = some f) (o k : Nat) (ht : f.type = t) (ho : f.offset = o) (hk : Try.prog.cellsOf t = k) : ∃ y, F2 (LR w) (E y) ((cs.drop o).take k) ∧ W y :=
  let ⟨_, g⟩ := fieldS hlen hf i f hi o k ht ho hk; hop g
theorem open3 : Op 3 (eI .i64) (wfI .i64) := fun h => open_i Try.underlying3 h
theorem open2 : Op 2 (eI .i64) (wfI .i64) := fun h => open_i Try.underlying2 h
theorem open34 : Op 34 enc_api_Config wf_api_Config := by
  intro H _ w _ _ _ _ cs _ h
  obtain ⟨xs, n, _, hx, hl, hlen, hf⟩ := DataW.trod_struct Try.underlying34 h
  rw [cells34] at hl
  obtain ⟨y0, r0, w0⟩ := fO open3 hlen hf 0 _ rfl 0 1 rfl rfl cells3
  obtain ⟨y1, r1, w1⟩ := fO open3 hlen hf 1 _ rfl 1 1 rfl rfl cells3
  obtain ⟨y2, r2, w2⟩ := fO open2 hlen hf 2 _ rfl 2 1 rfl rfl cells2
  obtain ⟨y3, r3, w3⟩ := fO open3 hlen hf 3 _ rfl 3 1 rfl rfl cells3
  obtain ⟨y4, r4, w4⟩ := fO open3 hlen hf 4 _ rfl 4 1 rfl rfl cells3
  obtain ⟨y5, r5, w5⟩ := fO open3 hlen hf 5 _ rfl 5 1 rfl rfl cells3
  obtain ⟨y6, r6, w6⟩ := fO open3 hlen hf 6 _ rfl 6 1 rfl rfl cells3
  obtain ⟨y7, r7, w7⟩ := fO open2 hlen hf 7 _ rfl 7 1 rfl rfl cells2
  exact ⟨api_Config.mk y0 y1 y2 y3 y4 y5 y6 y7, (f2_split r0 (f2_split r1 (f2_split r2 (f2_split r3 (f2_split r4 (f2_split r5 (f2_split r6 (f2_split r7 (f2_end (by omega))))))))) : F2 (LR w) _ (cs.drop 0)), w0, w1, w2, w3, w4, w5, w6, w7⟩
theorem open35 : Op 35 (eL 1 (eI .i64)) (wfL (wfI .i64)) := fun h => open_s (eI .i64) (wfI .i64) 1 Try.underlying35 cells2 (by decide) (fun _ => rfl) (fun _ _ _ h => open2 h) h
theorem open37 : Op 37 enc_api_Query wf_api_Query := by
  intro H _ w _ _ _ _ cs _ h
  obtain ⟨xs, n, _, hx, hl, hlen, hf⟩ := DataW.trod_struct Try.underlying37 h
  rw [cells37] at hl
  obtain ⟨y0, r0, w0⟩ := fO open3 hlen hf 0 _ rfl 0 1 rfl rfl cells3
  obtain ⟨y1, r1, w1⟩ := fO open2 hlen hf 1 _ rfl 1 1 rfl rfl cells2
  obtain ⟨y2, r2, w2⟩ := fO open2 hlen hf 2 _ rfl 2 1 rfl rfl cells2
  exact ⟨api_Query.mk y0 y1 y2, (f2_split r0 (f2_split r1 (f2_split r2 (f2_end (by omega)))) : F2 (LR w) _ (cs.drop 0)), w0, w1, w2⟩
theorem open5 : Op 5 (eI .u8) (wfI .u8) := fun h => open_i Try.underlying5 h
theorem open25 : Op 25 (eL 1 (eI .u8)) (wfL (wfI .u8)) := fun h => open_s (eI .u8) (wfI .u8) 1 Try.underlying25 cells5 (by decide) (fun _ => rfl) (fun _ _ _ h => open5 h) h
theorem open39 : Op 39 enc_api_Command wf_api_Command := by
  intro H _ w _ _ _ _ cs _ h
  obtain ⟨xs, n, _, hx, hl, hlen, hf⟩ := DataW.trod_struct Try.underlying39 h
  rw [cells39] at hl
  obtain ⟨y0, r0, w0⟩ := fO open3 hlen hf 0 _ rfl 0 1 rfl rfl cells3
  obtain ⟨y1, r1, w1⟩ := fO open2 hlen hf 1 _ rfl 1 1 rfl rfl cells2
  obtain ⟨y2, r2, w2⟩ := fO open34 hlen hf 2 _ rfl 2 8 rfl rfl cells34
  obtain ⟨y3, r3, w3⟩ := fO open2 hlen hf 3 _ rfl 10 1 rfl rfl cells2
  obtain ⟨y4, r4, w4⟩ := fO open2 hlen hf 4 _ rfl 11 1 rfl rfl cells2
  obtain ⟨y5, r5, w5⟩ := fO open35 hlen hf 5 _ rfl 12 1 rfl rfl cells35
  obtain ⟨y6, r6, w6⟩ := fO open37 hlen hf 6 _ rfl 13 3 rfl rfl cells37
  obtain ⟨y7, r7, w7⟩ := fO open25 hlen hf 7 _ rfl 16 1 rfl rfl cells25
  exact ⟨api_Command.mk y0 y1 y2 y3 y4 y5 y6 y7, (f2_split r0 (f2_split r1 (f2_split r2 (f2_split r3 (f2_split r4 (f2_split r5 (f2_split r6 (f2_split r7 (f2_end (by omega))))))))) : F2 (LR w) _ (cs.drop 0)), w0, w1, w2, w3, w4, w5, w6, w7⟩
theorem open22 : Op 22 (eL 17 enc_api_Command) (wfL wf_api_Command) := fun h => open_s enc_api_Command wf_api_Command 17 Try.underlying22 cells39 (by decide) (fun _ => rfl) (fun _ _ _ h => open39 h) h

theorem walk (w : World) (p0 : (List api_Command)) (v0 : Value) (r0 : F2 (LR w) (eL 17 enc_api_Command p0) [v0]) (w0 : (wfL wf_api_Command) p0) : Calls Try.prog 3 #[v0] w fun e w' => e = .returned (.bool true) ∧ Below w.heap.size w w' :=
  (c_law30_ScriptJoins p0 true (law30_ScriptJoins_true p0 w0)).law2 Try.call3 w _ rfl (fun i c hi => by
    match i, hi with
    | 0, hi => cases hi; exact ⟨_, rfl, vr1_one r0⟩)

set_option maxRecDepth 100000 in
theorem lifted (os : Os) (started : os.Started) (H : Type) (enc : TypeId × Value → H) :
    ReturnsInHanded {} Try.checked os 3 .any (Rows.scriptJoinsSpec.pre6 enc Try.prog Try.f3 Rows.scriptJoinsRow.domain false) (Rows.scriptJoinsSpec.post enc Try.prog Try.f3 false true false false) := by
  refine returnsInHanded_of_change (C := Try.checked) own started (by kernel_rfl) Try.func3
    (ChangeSpec.witness6 (enc := enc) (C := Try.checked) false ⟨#[], #[.slice none 0 0], []⟩ 8 (by kernel_rfl) (by kernel_rfl) (by kernel_rfl) (by kernel_rfl)) ?_
  intro W base args ds gs before hval0 hW hcnd _
  have hval : ∀ (j : Nat) t v, Try.f3.params[j]? = some t → args[j]? = some v → Value.okWide Try.prog W .any base t v := hval0
  have hW' := hW
  obtain ⟨p, q, hA0, hV, rfl, hfz, hnd⟩ := hW
  have hA : DataW.TrodAll enc Try.prog W 0 (fun _ => true) true Try.f3.params.toList args.toList ds p := hA0
  rw [Try.params3] at hA hval
  obtain ⟨v0, vs0, d0, ds0, pl0, q0, hargs, rfl, rfl, h0, r0⟩ := trodAll_cons hA
  obtain ⟨rfl, rfl, rfl⟩ := trodAll_nil r0
  obtain rfl : args = #[v0] := by cases args; simp_all
  obtain ⟨rfl, rfl⟩ := trodVars_none hV
  obtain ⟨ad0, len0, cap0, rfl⟩ := okWide_slice Try.underlying22 (hval 0 22 v0 rfl rfl)
  have hk0 := h0
  obtain ⟨fuel0, hf0⟩ := h0
  obtain ⟨a0, ra0, wa0⟩ := open22 hf0
  clear hA0 hval0
  simp only [List.append_nil, List.nil_append] at hW'
  have hlt0 : ∀ x ∈ pl0, x.block < W.heap.size := fun x hx => hW'.lt x (by simp [hx])
  refine (walk W a0 _ ra0 wa0).mono fun e W' ⟨he, hb⟩ => ?_
  subst he
  exact ⟨_, rfl, post_of_below (pa := pl0) (pv := []) hW' (fun _ _ _ => (trodAll_cons_mk (shut_bool Try.underlying4 _) trodAll_mk0))
    (fun sp hsp => by
      have : DataW.TrodAll enc Try.prog W' 0 sp true [22] [Value.slice ad0 len0 cap0] [d0] _ := (trodAll_cons_mk (arg_stays laidOut (by kernel_rfl) (of_decide_eq_true (by kernel_rfl)) hk0 hb hlt0 (fun x hx => hsp x (by simp [hx]))) trodAll_mk0)
      have h2 : DataW.TrodAll enc Try.prog W' 0 sp true [22] [Value.slice ad0 len0 cap0] [d0] (pl0) := by simpa using this
      exact h2) (fun _ _ => rfl) (by simp) hb
    (ok_one (by kernel_rfl) rfl (okWide_bool_mk Try.underlying4 _))⟩

theorem named : Try.pinned.checked.prog.funcNamed Rows.scriptJoinsRow.func = some 3 := by kernel_rfl
theorem inst : Try.f3.isInstance Try.pinned.checked.prog Rows.scriptJoinsRow.origin Rows.scriptJoinsRow.targs := of_decide_eq_true (by kernel_rfl)
theorem wrap : Try.f3.isWrapper Try.pinned.checked.prog Rows.scriptJoinsRow.wrapper Rows.scriptJoinsRow.mainSum := by unfold Func.isWrapper; first | (rw [if_pos (by decide +kernel)]; kernel_rfl) | (rw [if_neg (by decide +kernel)]; exact ⟨rfl, rfl⟩)
theorem over : Rows.scriptJoinsRow.holds Try.pinned (OpenSpec.ofChange Rows.scriptJoinsSpec) :=
  OpenClaim.holds_of_wide 3 Try.f3 rfl rfl rfl rfl rfl rfl rfl ⟨rfl, rfl, rfl, rfl, rfl⟩ rfl rfl rfl rfl rfl named Try.func3 joined inst wrap
    (fun os started H enc _ => lifted os started H enc)

theorem proved : Rows.ScriptJoinsSaid :=
  over
#print axioms proved
end Go.Proofs.Ytmipeaidieflmaa.scriptJoins
