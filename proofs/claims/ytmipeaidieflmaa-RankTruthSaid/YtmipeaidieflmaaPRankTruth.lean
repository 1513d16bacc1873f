/- The law RankTruth of package windowpanelaw21 answers true at every input, and leaves its arguments as they were. Conditions: none. -/
import Derived.Test.YtmipeaidieflmaaRows
import Derived.Test.YtmipeaidieflmaaFRankTruth
import Derived.Test.YtmipeaidieflmaaCon
import Derived.Test.YtmipeaidieflmaaVc
import Derived.Test.YtmipeaidieflmaaPuTruthL
import Derived.ProofKit
import Derived.OpenShut
set_option linter.unusedVariables false
set_option linter.unusedSimpArgs false
namespace Go.Proofs.Ytmipeaidieflmaa.rankTruth
open Go.Vc Go.Dec Go.Win Go.ChangeShapes Go.WideShapes Go.ChangeAt Go.RowKit

theorem own : ownKnob Try.prog.godebug = none := by kernel_rfl
theorem laidOut : laidOutB Try.prog = true := by kernel_rfl
theorem cells2 : Try.prog.cellsOf 2 = 1 := by kernel_rfl
theorem cells35 : Try.prog.cellsOf 35 = 1 := by kernel_rfl
theorem cells3 : Try.prog.cellsOf 3 = 1 := by kernel_rfl

def Op {α : Type} (t : TypeId) (E : α → List AV) (W : α → Prop) : Prop := ∀ {H : Type} {enc : TypeId × Value → H} {w : World} {base : Nat} {spare : Nat → Bool} {held : Bool} {fuel : Nat} {cs : List Value} {x : DataW H × List MemPlace}, DataW.trod enc Try.prog w base spare held fuel t cs = some x → ∃ y : α, F2 (LR w) (E y) cs ∧ W y
theorem fO {α : Type} {t : TypeId} {E : α → List AV} {W : α → Prop} (hop : Op t E W) {H : Type} {enc : TypeId × Value → H} {w : World} {base : Nat} {spare : Nat → Bool} {held : Bool} {fs : Array Field} {n : Nat} {cs : List Value} {xs : List (DataW H × List MemPlace)} (hlen : xs.length = fs.size)
    (hf : ∀ (i : Nat) (f : Field), fs[i]? = some f → DataW.trod enc Try.prog w base spare held n f.type ((cs.drop f.offset).take (Try.prog.cellsOf f.type)) = xs[i]?) (i : Nat) (f : Field) (hi : fs[i]? = some f) (o k : Nat) (ht : f.type = t) (ho : f.offset = o) (hk : Try.prog.cellsOf t = k) : ∃ y, F2 (LR w) (E y) ((cs.drop o).take k) ∧ W y :=
  let ⟨_, g⟩ := fieldS hlen hf i f hi o k ht ho hk; hop g
theorem open2 : Op 2 (eI .i64) (wfI .i64) := fun h => open_i Try.underlying2 h
theorem open35 : Op 35 (eL 1 (eI .i64)) (wfL (wfI .i64)) := fun h => open_s (eI .i64) (wfI .i64) 1 Try.underlying35 cells2 (by decide) (fun _ => rfl) (fun _ _ _ h => open2 h) h
theorem open3 : Op 3 (eI .i64) (wfI .i64) := fun h => open_i Try.underlying3 h

theorem walk (w : World) (p0 : (List Int)) (v0 : Value) (r0 : F2 (LR w) (eL 1 (eI .i64) p0) [v0]) (w0 : (wfL (wfI .i64)) p0) (p1 : Int) (w1 : wfI .i64 p1) (p2 : Int) (w2 : wfI .i64 p2) : Calls Try.prog 6 #[v0, .int .i64 p1, .int .i64 p2] w fun e w' => e = .returned (.bool true) ∧ Below w.heap.size w w' :=
  (c_law21_RankTruth p0 p1 p2 true (law21_RankTruth_true p0 p1 p2 w0 w1 w2)).law2 Try.call6 w _ rfl (fun i c hi => by
    match i, hi with
    | 0, hi => cases hi; exact ⟨_, rfl, vr1_one r0⟩
    | 1, hi => cases hi; exact ⟨_, rfl, rfl⟩
    | 2, hi => cases hi; exact ⟨_, rfl, rfl⟩)

set_option maxRecDepth 100000 in
theorem lifted (os : Os) (started : os.Started) (H : Type) (enc : TypeId × Value → H) :
    ReturnsInHanded {} Try.checked os 6 .any (Rows.rankTruthSpec.pre6 enc Try.prog Try.f6 Rows.rankTruthRow.domain false) (Rows.rankTruthSpec.post enc Try.prog Try.f6 false true false false) := by
  refine returnsInHanded_of_change (C := Try.checked) own started (by kernel_rfl) Try.func6
    (ChangeSpec.witness6 (enc := enc) (C := Try.checked) false ⟨#[], #[.slice none 0 0, .int .i64 0, .int .i64 0], []⟩ 8 (by kernel_rfl) (by kernel_rfl) (by kernel_rfl) (by kernel_rfl)) ?_
  intro W base args ds gs before hval0 hW hcnd _
  have hval : ∀ (j : Nat) t v, Try.f6.params[j]? = some t → args[j]? = some v → Value.okWide Try.prog W .any base t v := hval0
  have hW' := hW
  obtain ⟨p, q, hA0, hV, rfl, hfz, hnd⟩ := hW
  have hA : DataW.TrodAll enc Try.prog W 0 (fun _ => true) true Try.f6.params.toList args.toList ds p := hA0
  rw [Try.params6] at hA hval
  obtain ⟨v0, vs0, d0, ds0, pl0, q0, hargs, rfl, rfl, h0, r0⟩ := trodAll_cons hA
  obtain ⟨v1, vs1, d1, ds1, pl1, q1, rfl, rfl, rfl, h1, r1⟩ := trodAll_cons r0
  obtain ⟨v2, vs2, d2, ds2, pl2, q2, rfl, rfl, rfl, h2, r2⟩ := trodAll_cons r1
  obtain ⟨rfl, rfl, rfl⟩ := trodAll_nil r2
  obtain rfl : args = #[v0, v1, v2] := by cases args; simp_all
  obtain ⟨rfl, rfl⟩ := trodVars_none hV
  obtain ⟨ad0, len0, cap0, rfl⟩ := okWide_slice Try.underlying35 (hval 0 35 v0 rfl rfl)
  have hk0 := h0
  obtain ⟨fuel0, hf0⟩ := h0
  obtain ⟨a0, ra0, wa0⟩ := open35 hf0
  obtain ⟨a1, rfl, rfl, rfl, w1⟩ := open_int Try.underlying3 (hval 1 3 v1 rfl rfl) h1
  obtain ⟨a2, rfl, rfl, rfl, w2⟩ := open_int Try.underlying2 (hval 2 2 v2 rfl rfl) h2
  clear hA0 hval0
  simp only [List.append_nil, List.nil_append] at hW'
  have hlt0 : ∀ x ∈ pl0, x.block < W.heap.size := fun x hx => hW'.lt x (by simp [hx])
  refine (walk W a0 _ ra0 wa0 a1 w1 a2 w2).mono fun e W' ⟨he, hb⟩ => ?_
  subst he
  exact ⟨_, rfl, post_of_below (pa := pl0) (pv := []) hW' (fun _ _ _ => (trodAll_cons_mk (shut_bool Try.underlying4 _) trodAll_mk0))
    (fun sp hsp => by
      have : DataW.TrodAll enc Try.prog W' 0 sp true [35, 3, 2] [Value.slice ad0 len0 cap0, .int .i64 a1, .int .i64 a2] [d0, .lit (.int .i64 a1), .lit (.int .i64 a2)] _ := (trodAll_cons_mk (arg_stays laidOut (by kernel_rfl) (of_decide_eq_true (by kernel_rfl)) hk0 hb hlt0 (fun x hx => hsp x (by simp [hx]))) (trodAll_cons_mk (shut_int Try.underlying3 w1) (trodAll_cons_mk (shut_int Try.underlying2 w2) trodAll_mk0)))
      have h2 : DataW.TrodAll enc Try.prog W' 0 sp true [35, 3, 2] [Value.slice ad0 len0 cap0, .int .i64 a1, .int .i64 a2] [d0, .lit (.int .i64 a1), .lit (.int .i64 a2)] (pl0) := by simpa using this
      exact h2) (fun _ _ => rfl) (by simp) hb
    (ok_one (by kernel_rfl) rfl (okWide_bool_mk Try.underlying4 _))⟩

theorem named : Try.pinned.checked.prog.funcNamed Rows.rankTruthRow.func = some 6 := by kernel_rfl
theorem inst : Try.f6.isInstance Try.pinned.checked.prog Rows.rankTruthRow.origin Rows.rankTruthRow.targs := of_decide_eq_true (by kernel_rfl)
theorem wrap : Try.f6.isWrapper Try.pinned.checked.prog Rows.rankTruthRow.wrapper Rows.rankTruthRow.mainSum := by unfold Func.isWrapper; first | (rw [if_pos (by decide +kernel)]; kernel_rfl) | (rw [if_neg (by decide +kernel)]; exact ⟨rfl, rfl⟩)
theorem over : Rows.rankTruthRow.holds Try.pinned (OpenSpec.ofChange Rows.rankTruthSpec) :=
  OpenClaim.holds_of_wide 6 Try.f6 rfl rfl rfl rfl rfl rfl rfl ⟨rfl, rfl, rfl, rfl, rfl⟩ rfl rfl rfl rfl rfl named Try.func6 joined inst wrap
    (fun os started H enc _ => lifted os started H enc)

theorem proved : Rows.RankTruthSaid :=
  over
#print axioms proved
end Go.Proofs.Ytmipeaidieflmaa.rankTruth
