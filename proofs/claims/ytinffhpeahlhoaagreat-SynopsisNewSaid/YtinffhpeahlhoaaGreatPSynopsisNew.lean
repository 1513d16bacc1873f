/- The law SynopsisNew of package windowpanelaw25 answers true at every input, and leaves its arguments as they were. Conditions: none. -/
import Derived.Test.YtinffhpeahlhoaaGreatRows
import Derived.Test.YtinffhpeahlhoaaGreatCon
import Derived.Test.YtinffhpeahlhoaaGreatVc
import Derived.Test.YtinffhpeahlhoaaGreatPuSyV
import Derived.ProofKit
import Derived.OpenShut
set_option linter.unusedVariables false
namespace Go.Proofs.YtinffhpeahlhoaaGreat.synopsisNew
open Go.Vc Go.Dec Go.Win Go.ChangeShapes Go.WideShapes Go.ChangeAt Go.RowKit

theorem own : ownKnob Tryz.prog.godebug = none := by kernel_rfl
theorem laidOut : laidOutB Tryz.prog = true := by kernel_rfl
theorem cells3 : Tryz.prog.cellsOf 3 = 1 := by kernel_rfl
theorem cells2 : Tryz.prog.cellsOf 2 = 1 := by kernel_rfl
theorem cells30 : Tryz.prog.cellsOf 30 = 8 := by kernel_rfl

theorem open3 {H : Type} {enc : TypeId × Value → H} {w : World} {base : Nat} {spare : Nat → Bool} {held : Bool} {fuel : Nat} {cs : List Value} {x : DataW H × List MemPlace} (h : DataW.trod enc Tryz.prog w base spare held fuel 3 cs = some x) : ∃ y : Int, F2 (LR w) (eI .i64 y) cs ∧ wfI .i64 y := open_i Tryz.underlying3 h
theorem open2 {H : Type} {enc : TypeId × Value → H} {w : World} {base : Nat} {spare : Nat → Bool} {held : Bool} {fuel : Nat} {cs : List Value} {x : DataW H × List MemPlace} (h : DataW.trod enc Tryz.prog w base spare held fuel 2 cs = some x) : ∃ y : Int, F2 (LR w) (eI .i64 y) cs ∧ wfI .i64 y := open_i Tryz.underlying2 h
theorem open30 {H : Type} {enc : TypeId × Value → H} {w : World} {base : Nat} {spare : Nat → Bool} {held : Bool} {fuel : Nat} {cs : List Value} {x : DataW H × List MemPlace} (h : DataW.trod enc Tryz.prog w base spare held fuel 30 cs = some x) : ∃ y : api_Config, F2 (LR w) (enc_api_Config y) cs ∧ wf_api_Config y := by
  obtain ⟨xs, n, _, hx, hl, hlen, hf⟩ := DataW.trod_struct Tryz.underlying30 h
  rw [cells30] at hl
  obtain ⟨z0, g0⟩ := fieldS hlen hf 0 _ rfl 0 1 (t := 3) rfl rfl cells3
  obtain ⟨y0, r0, w0⟩ := open3 g0
  obtain ⟨z1, g1⟩ := fieldS hlen hf 1 _ rfl 1 1 (t := 3) rfl rfl cells3
  obtain ⟨y1, r1, w1⟩ := open3 g1
  obtain ⟨z2, g2⟩ := fieldS hlen hf 2 _ rfl 2 1 (t := 2) rfl rfl cells2
  obtain ⟨y2, r2, w2⟩ := open2 g2
  obtain ⟨z3, g3⟩ := fieldS hlen hf 3 _ rfl 3 1 (t := 3) rfl rfl cells3
  obtain ⟨y3, r3, w3⟩ := open3 g3
  obtain ⟨z4, g4⟩ := fieldS hlen hf 4 _ rfl 4 1 (t := 3) rfl rfl cells3
  obtain ⟨y4, r4, w4⟩ := open3 g4
  obtain ⟨z5, g5⟩ := fieldS hlen hf 5 _ rfl 5 1 (t := 3) rfl rfl cells3
  obtain ⟨y5, r5, w5⟩ := open3 g5
  obtain ⟨z6, g6⟩ := fieldS hlen hf 6 _ rfl 6 1 (t := 3) rfl rfl cells3
  obtain ⟨y6, r6, w6⟩ := open3 g6
  obtain ⟨z7, g7⟩ := fieldS hlen hf 7 _ rfl 7 1 (t := 2) rfl rfl cells2
  obtain ⟨y7, r7, w7⟩ := open2 g7
  exact ⟨api_Config.mk y0 y1 y2 y3 y4 y5 y6 y7, (f2_split r0 (f2_split r1 (f2_split r2 (f2_split r3 (f2_split r4 (f2_split r5 (f2_split r6 (f2_split r7 (f2_end (by omega))))))))) : F2 (LR w) _ (cs.drop 0)), w0, w1, w2, w3, w4, w5, w6, w7⟩

theorem walk (w : World) (p0 : api_Config) (c0 : Array Value) (r0 : F2 (LR w) (enc_api_Config p0) c0.toList) (w0 : wf_api_Config p0) (p1 : Int) (w1 : wfI .i64 p1) : Calls Tryz.prog 5 #[.agg c0, .int .i64 p1] w fun e w' => e = .returned (.bool true) ∧ Below w.heap.size w w' :=
  (c_law25_SynopsisNew p0 p1 true (law25_SynopsisNew_true p0 p1 w0 w1)).law2 Tryz.call5 w _ rfl (fun i c hi => by
    match i, hi with
    | 0, hi => cases hi; exact ⟨_, rfl, vr1_struct r0⟩
    | 1, hi => cases hi; exact ⟨_, rfl, rfl⟩)

set_option maxRecDepth 100000 in
theorem lifted (os : Os) (started : os.Started) (H : Type) (enc : TypeId × Value → H) :
    ReturnsInHanded {} Tryz.checked os 5 .any (Rows.synopsisNewSpec.pre6 enc Tryz.prog Tryz.f5 Rows.synopsisNewRow.domain false) (Rows.synopsisNewSpec.post enc Tryz.prog Tryz.f5 false true false false) := by
  refine returnsInHanded_of_change (C := Tryz.checked) own started (by kernel_rfl) Tryz.func5
    (ChangeSpec.witness6 (enc := enc) (C := Tryz.checked) false ⟨#[], #[.agg #[.int .i64 0, .int .i64 0, .int .i64 0, .int .i64 0, .int .i64 0, .int .i64 0, .int .i64 0, .int .i64 0], .int .i64 0], []⟩ 8 (by kernel_rfl) (by kernel_rfl) (by kernel_rfl) (by kernel_rfl)) ?_
  intro W base args ds gs before hval0 hW hcnd _
  have hval : ∀ (j : Nat) t v, Tryz.f5.params[j]? = some t → args[j]? = some v → Value.okWide Tryz.prog W .any base t v := hval0
  have hW' := hW
  obtain ⟨p, q, hA0, hV, rfl, hfz, hnd⟩ := hW
  have hA : DataW.TrodAll enc Tryz.prog W 0 (fun _ => true) true Tryz.f5.params.toList args.toList ds p := hA0
  rw [Tryz.params5] at hA hval
  obtain ⟨v0, vs0, d0, ds0, pl0, q0, hargs, rfl, rfl, h0, r0⟩ := trodAll_cons hA
  obtain ⟨v1, vs1, d1, ds1, pl1, q1, rfl, rfl, rfl, h1, r1⟩ := trodAll_cons r0
  obtain ⟨rfl, rfl, rfl⟩ := trodAll_nil r1
  obtain rfl : args = #[v0, v1] := by cases args; simp_all
  obtain ⟨rfl, rfl⟩ := trodVars_none hV
  obtain ⟨cs0, rfl, _⟩ := okWide_struct Tryz.underlying30 (hval 0 30 v0 rfl rfl)
  have hk0 := h0
  obtain ⟨fuel0, hf0⟩ := h0
  obtain ⟨a0, ra0, wa0⟩ := open30 hf0
  obtain ⟨a1, rfl, rfl, rfl, w1⟩ := open_int Tryz.underlying2 (hval 1 2 v1 rfl rfl) h1
  clear hA0 hval0
  simp only [List.append_nil, List.nil_append] at hW'
  have hlt0 : ∀ x ∈ pl0, x.block < W.heap.size := fun x hx => hW'.lt x (by simp [hx])
  refine (walk W a0 _ ra0 wa0 a1 w1).mono fun e W' ⟨he, hb⟩ => ?_
  subst he
  exact ⟨_, rfl, post_of_below (pa := pl0) (pv := []) hW' (fun _ _ _ => (trodAll_cons_mk (shut_bool Tryz.underlying4 _) trodAll_mk0))
    (fun sp hsp => by
      have : DataW.TrodAll enc Tryz.prog W' 0 sp true [30, 2] [Value.agg cs0, .int .i64 a1] [d0, .lit (.int .i64 a1)] _ := (trodAll_cons_mk (arg_stays laidOut (by kernel_rfl) (of_decide_eq_true (by kernel_rfl)) hk0 hb hlt0 (fun x hx => hsp x (by simp [hx]))) (trodAll_cons_mk (shut_int Tryz.underlying2 w1) trodAll_mk0))
      have h2 : DataW.TrodAll enc Tryz.prog W' 0 sp true [30, 2] [Value.agg cs0, .int .i64 a1] [d0, .lit (.int .i64 a1)] (pl0) := by simpa using this
      exact h2) (fun _ _ => rfl) (by simp) hb
    (ok_one (by kernel_rfl) rfl (okWide_bool_mk Tryz.underlying4 _))⟩

theorem over : Rows.synopsisNewRow.holds Tryz.pinned (OpenSpec.ofChange Rows.synopsisNewSpec) :=
  OpenClaim.holds_of_wide 5 Tryz.f5 rfl rfl rfl rfl rfl rfl rfl ⟨rfl, rfl, rfl, rfl, rfl⟩ rfl rfl rfl rfl rfl (by kernel_rfl) Tryz.func5 (by kernel_rfl)
    (of_decide_eq_true (by kernel_rfl)) (by unfold Func.isWrapper; first | (rw [if_pos (by decide +kernel)]; kernel_rfl) | (rw [if_neg (by decide +kernel)]; exact ⟨rfl, rfl⟩))
    (fun os started H enc _ => lifted os started H enc)

theorem proved : Rows.SynopsisNewSaid :=
  over
#print axioms proved
end Go.Proofs.YtinffhpeahlhoaaGreat.synopsisNew
