/- The law RecentTruth of package windowpanelaw09 answers true at every input, and leaves its arguments as they were. Conditions: none. -/
import Derived.Test.YtpclnmpmammlfaaRows
import Derived.Test.YtpclnmpmammlfaaCon
import Derived.Test.YtpclnmpmammlfaaVc
import Derived.Test.YtpclnmpmammlfaaPuTruth9
import Derived.ProofKit
import Derived.OpenShut
set_option linter.unusedVariables false
namespace Go.Proofs.Ytpclnmpmammlfaa.recentTruth
open Go.Vc Go.Dec Go.Win Go.ChangeShapes Go.WideShapes Go.ChangeAt Go.RowKit

theorem own : ownKnob Try.prog.godebug = none := by kernel_rfl
theorem laidOut : laidOutB Try.prog = true := by kernel_rfl
theorem cells2 : Try.prog.cellsOf 2 = 1 := by kernel_rfl
theorem cells48 : Try.prog.cellsOf 48 = 2 := by kernel_rfl
theorem cells45 : Try.prog.cellsOf 45 = 1 := by kernel_rfl

theorem open2 {H : Type} {enc : TypeId × Value → H} {w : World} {base : Nat} {spare : Nat → Bool} {held : Bool} {fuel : Nat} {cs : List Value} {x : DataW H × List MemPlace} (h : DataW.trod enc Try.prog w base spare held fuel 2 cs = some x) : ∃ y : Int, F2 (LR w) (eI .i64 y) cs ∧ wfI .i64 y := open_i Try.underlying2 h
theorem open48 {H : Type} {enc : TypeId × Value → H} {w : World} {base : Nat} {spare : Nat → Bool} {held : Bool} {fuel : Nat} {cs : List Value} {x : DataW H × List MemPlace} (h : DataW.trod enc Try.prog w base spare held fuel 48 cs = some x) : ∃ y : api_Item, F2 (LR w) (enc_api_Item y) cs ∧ wf_api_Item y := by
  obtain ⟨xs, n, _, _, hl, hlen, hf⟩ := DataW.trod_struct Try.underlying48 h
  rw [cells48] at hl
  obtain ⟨z0, g0⟩ := fieldS hlen hf 0 _ rfl 0 1 (t := 2) rfl rfl cells2
  obtain ⟨y0, r0, w0⟩ := open2 g0
  obtain ⟨z1, g1⟩ := fieldS hlen hf 1 _ rfl 1 1 (t := 2) rfl rfl cells2
  obtain ⟨y1, r1, w1⟩ := open2 g1
  exact ⟨api_Item.mk y0 y1, (f2_split r0 (f2_split r1 (f2_end (by omega))) : F2 (LR w) _ (cs.drop 0)), w0, w1⟩
theorem open45 {H : Type} {enc : TypeId × Value → H} {w : World} {base : Nat} {spare : Nat → Bool} {held : Bool} {fuel : Nat} {cs : List Value} {x : DataW H × List MemPlace} (h : DataW.trod enc Try.prog w base spare held fuel 45 cs = some x) : ∃ y : (List api_Item), F2 (LR w) (eL 2 enc_api_Item y) cs ∧ (wfL wf_api_Item) y :=
  open_s enc_api_Item wf_api_Item 2 Try.underlying45 cells48 (by decide) (fun _ => rfl) (fun _ _ _ h => open48 h) h

theorem walk (w : World) (p0 : (List api_Item)) (v0 : Value) (r0 : F2 (LR w) (eL 2 enc_api_Item p0) [v0]) (w0 : (wfL wf_api_Item) p0) (p1 : Int) (w1 : wfI .i64 p1) (p2 : Int) (w2 : wfI .i64 p2) (p3 : Int) (w3 : wfI .i64 p3) (p4 : Int) (w4 : wfI .i64 p4) : Calls Try.prog 11 #[v0, .int .i64 p1, .int .i64 p2, .int .i64 p3, .int .i64 p4] w fun e w' => e = .returned (.bool true) ∧ Below w.heap.size w w' :=
  (c_law09_RecentTruth p0 p1 p2 p3 p4 true (law09_RecentTruth_true p0 p1 p2 p3 p4 w0 w1 w2 w3 w4)).law2 Try.call11 w _ rfl (fun i c hi => by
    match i, hi with
    | 0, hi => cases hi; exact ⟨_, rfl, vr1_one r0⟩
    | 1, hi => cases hi; exact ⟨_, rfl, rfl⟩
    | 2, hi => cases hi; exact ⟨_, rfl, rfl⟩
    | 3, hi => cases hi; exact ⟨_, rfl, rfl⟩
    | 4, hi => cases hi; exact ⟨_, rfl, rfl⟩)

set_option maxRecDepth 100000 in
theorem lifted (os : Os) (started : os.Started) (H : Type) (enc : TypeId × Value → H) :
    ReturnsInHanded {} Try.checked os 11 .any (Rows.recentTruthSpec.pre6 enc Try.prog Try.f11 Rows.recentTruthRow.domain false) (Rows.recentTruthSpec.post enc Try.prog Try.f11 false true false false) := by
  refine returnsInHanded_of_change (C := Try.checked) own started (by kernel_rfl) Try.func11
    (ChangeSpec.witness6 (enc := enc) (C := Try.checked) false ⟨#[], #[.slice none 0 0, .int .i64 0, .int .i64 0, .int .i64 0, .int .i64 0], []⟩ 8 (by kernel_rfl) (by kernel_rfl) (by kernel_rfl) (by kernel_rfl)) ?_
  intro W base args ds gs before hval0 hW hcnd _
  have hval : ∀ (j : Nat) t v, Try.f11.params[j]? = some t → args[j]? = some v → Value.okWide Try.prog W .any base t v := hval0
  have hW' := hW
  obtain ⟨p, q, hA0, hV, rfl, hfz, hnd⟩ := hW
  have hA : DataW.TrodAll enc Try.prog W 0 (fun _ => true) true Try.f11.params.toList args.toList ds p := hA0
  rw [Try.params11] at hA hval
  obtain ⟨v0, vs0, d0, ds0, pl0, q0, hargs, rfl, rfl, h0, r0⟩ := trodAll_cons hA
  obtain ⟨v1, vs1, d1, ds1, pl1, q1, rfl, rfl, rfl, h1, r1⟩ := trodAll_cons r0
  obtain ⟨v2, vs2, d2, ds2, pl2, q2, rfl, rfl, rfl, h2, r2⟩ := trodAll_cons r1
  obtain ⟨v3, vs3, d3, ds3, pl3, q3, rfl, rfl, rfl, h3, r3⟩ := trodAll_cons r2
  obtain ⟨v4, vs4, d4, ds4, pl4, q4, rfl, rfl, rfl, h4, r4⟩ := trodAll_cons r3
  obtain ⟨rfl, rfl, rfl⟩ := trodAll_nil r4
  obtain rfl : args = #[v0, v1, v2, v3, v4] := by cases args; simp_all
  obtain ⟨rfl, rfl⟩ := trodVars_none hV
  obtain ⟨ad0, len0, cap0, rfl⟩ := okWide_slice Try.underlying45 (hval 0 45 v0 rfl rfl)
  have hk0 := h0
  obtain ⟨fuel0, hf0⟩ := h0
  obtain ⟨a0, ra0, wa0⟩ := open45 hf0
  obtain ⟨a1, rfl, rfl, rfl, w1⟩ := open_int Try.underlying2 (hval 1 2 v1 rfl rfl) h1
  obtain ⟨a2, rfl, rfl, rfl, w2⟩ := open_int Try.underlying2 (hval 2 2 v2 rfl rfl) h2
  obtain ⟨a3, rfl, rfl, rfl, w3⟩ := open_int Try.underlying2 (hval 3 2 v3 rfl rfl) h3
  obtain ⟨a4, rfl, rfl, rfl, w4⟩ := open_int Try.underlying2 (hval 4 2 v4 rfl rfl) h4
  clear hA0 hval0
  simp only [List.append_nil, List.nil_append] at hW'
  have hlt0 : ∀ x ∈ pl0, x.block < W.heap.size := fun x hx => hW'.lt x (by simp [hx])
  refine (walk W a0 _ ra0 wa0 a1 w1 a2 w2 a3 w3 a4 w4).mono fun e W' ⟨he, hb⟩ => ?_
  subst he
  exact ⟨_, rfl, post_of_below (pa := pl0) (pv := []) hW' (fun _ _ _ => (trodAll_cons_mk (shut_bool Try.underlying4 _) trodAll_mk0))
    (fun sp hsp => by
      have : DataW.TrodAll enc Try.prog W' 0 sp true [45, 2, 2, 2, 2] [Value.slice ad0 len0 cap0, .int .i64 a1, .int .i64 a2, .int .i64 a3, .int .i64 a4] [d0, .lit (.int .i64 a1), .lit (.int .i64 a2), .lit (.int .i64 a3), .lit (.int .i64 a4)] _ := (trodAll_cons_mk (arg_stays laidOut (by kernel_rfl) (of_decide_eq_true (by kernel_rfl)) hk0 hb hlt0 (fun x hx => hsp x (by simp [hx]))) (trodAll_cons_mk (shut_int Try.underlying2 w1) (trodAll_cons_mk (shut_int Try.underlying2 w2) (trodAll_cons_mk (shut_int Try.underlying2 w3) (trodAll_cons_mk (shut_int Try.underlying2 w4) trodAll_mk0)))))
      have h2 : DataW.TrodAll enc Try.prog W' 0 sp true [45, 2, 2, 2, 2] [Value.slice ad0 len0 cap0, .int .i64 a1, .int .i64 a2, .int .i64 a3, .int .i64 a4] [d0, .lit (.int .i64 a1), .lit (.int .i64 a2), .lit (.int .i64 a3), .lit (.int .i64 a4)] (pl0) := by simpa using this
      exact h2) (fun _ _ => rfl) (by simp) hb
    (ok_one (by kernel_rfl) rfl (okWide_bool_mk Try.underlying4 _))⟩

theorem over : Rows.recentTruthRow.holds Try.pinned (OpenSpec.ofChange Rows.recentTruthSpec) :=
  OpenClaim.holds_of_wide 11 Try.f11 rfl rfl rfl rfl rfl rfl rfl ⟨rfl, rfl, rfl, rfl, rfl⟩ rfl rfl rfl rfl rfl (by kernel_rfl) Try.func11 (by kernel_rfl)
    (of_decide_eq_true (by kernel_rfl)) (by unfold Func.isWrapper; first | (rw [if_pos (by decide +kernel)]; kernel_rfl) | (rw [if_neg (by decide +kernel)]; exact ⟨rfl, rfl⟩))
    (fun os started H enc _ => lifted os started H enc)

theorem proved : Rows.RecentTruthSaid :=
  over
#print axioms proved
end Go.Proofs.Ytpclnmpmammlfaa.recentTruth
