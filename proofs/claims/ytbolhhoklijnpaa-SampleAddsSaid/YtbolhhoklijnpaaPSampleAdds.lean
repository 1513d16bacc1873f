/- The law SampleAdds of package windowpanelaw19 answers true at every input, and leaves its arguments as they were. Conditions: none. -/
import Derived.Test.YtbolhhoklijnpaaRows
import Derived.Test.YtbolhhoklijnpaaCon
import Derived.Test.YtbolhhoklijnpaaVc
import Derived.Test.YtbolhhoklijnpaaPu19
import Derived.ProofKit
import Derived.OpenShut
set_option linter.unusedVariables false
namespace Go.Proofs.Ytbolhhoklijnpaa.sampleAdds
open Go.Vc Go.Dec Go.Win Go.ChangeShapes Go.WideShapes Go.ChangeAt Go.RowKit

theorem own : ownKnob Try.prog.godebug = none := by kernel_rfl
theorem laidOut : laidOutB Try.prog = true := by kernel_rfl
theorem cells2 : Try.prog.cellsOf 2 = 1 := by kernel_rfl
theorem cells3 : Try.prog.cellsOf 3 = 1 := by kernel_rfl
theorem cells183 : Try.prog.cellsOf 183 = 2 := by kernel_rfl
theorem cells76 : Try.prog.cellsOf 76 = 1 := by kernel_rfl
theorem cells78 : Try.prog.cellsOf 78 = 5 := by kernel_rfl
theorem cells59 : Try.prog.cellsOf 59 = 1 := by kernel_rfl
theorem cells61 : Try.prog.cellsOf 61 = 1 := by kernel_rfl
theorem cells50 : Try.prog.cellsOf 50 = 1 := by kernel_rfl

theorem open2 {H : Type} {enc : TypeId × Value → H} {w : World} {base : Nat} {spare : Nat → Bool} {held : Bool} {fuel : Nat} {cs : List Value} {x : DataW H × List MemPlace} (h : DataW.trod enc Try.prog w base spare held fuel 2 cs = some x) : ∃ y : Int, F2 (LR w) (eI .i64 y) cs ∧ wfI .i64 y := open_i Try.underlying2 h
theorem open3 {H : Type} {enc : TypeId × Value → H} {w : World} {base : Nat} {spare : Nat → Bool} {held : Bool} {fuel : Nat} {cs : List Value} {x : DataW H × List MemPlace} (h : DataW.trod enc Try.prog w base spare held fuel 3 cs = some x) : ∃ y : Int, F2 (LR w) (eI .i64 y) cs ∧ wfI .i64 y := open_i Try.underlying3 h
theorem open183 {H : Type} {enc : TypeId × Value → H} {w : World} {base : Nat} {spare : Nat → Bool} {held : Bool} {fuel : Nat} {cs : List Value} {x : DataW H × List MemPlace} (h : DataW.trod enc Try.prog w base spare held fuel 183 cs = some x) : ∃ y : api_Link, F2 (LR w) (enc_api_Link y) cs ∧ wf_api_Link y := by
  obtain ⟨xs, n, _, _, hl, hlen, hf⟩ := DataW.trod_struct Try.underlying183 h
  rw [cells183] at hl
  obtain ⟨z0, g0⟩ := fieldS hlen hf 0 _ rfl 0 1 (t := 2) rfl rfl cells2
  obtain ⟨y0, r0, w0⟩ := open2 g0
  obtain ⟨z1, g1⟩ := fieldS hlen hf 1 _ rfl 1 1 (t := 2) rfl rfl cells2
  obtain ⟨y1, r1, w1⟩ := open2 g1
  exact ⟨api_Link.mk y0 y1, (f2_split r0 (f2_split r1 (f2_end (by omega))) : F2 (LR w) _ (cs.drop 0)), w0, w1⟩
theorem open76 {H : Type} {enc : TypeId × Value → H} {w : World} {base : Nat} {spare : Nat → Bool} {held : Bool} {fuel : Nat} {cs : List Value} {x : DataW H × List MemPlace} (h : DataW.trod enc Try.prog w base spare held fuel 76 cs = some x) : ∃ y : (List api_Link), F2 (LR w) (eL 2 enc_api_Link y) cs ∧ (wfL wf_api_Link) y :=
  open_s enc_api_Link wf_api_Link 2 Try.underlying76 cells183 (by decide) (fun _ => rfl) (fun _ _ _ h => open183 h) h
theorem open78 {H : Type} {enc : TypeId × Value → H} {w : World} {base : Nat} {spare : Nat → Bool} {held : Bool} {fuel : Nat} {cs : List Value} {x : DataW H × List MemPlace} (h : DataW.trod enc Try.prog w base spare held fuel 78 cs = some x) : ∃ y : api_Chain, F2 (LR w) (enc_api_Chain y) cs ∧ wf_api_Chain y := by
  obtain ⟨xs, n, _, _, hl, hlen, hf⟩ := DataW.trod_struct Try.underlying78 h
  rw [cells78] at hl
  obtain ⟨z0, g0⟩ := fieldS hlen hf 0 _ rfl 0 1 (t := 2) rfl rfl cells2
  obtain ⟨y0, r0, w0⟩ := open2 g0
  obtain ⟨z1, g1⟩ := fieldS hlen hf 1 _ rfl 1 1 (t := 3) rfl rfl cells3
  obtain ⟨y1, r1, w1⟩ := open3 g1
  obtain ⟨z2, g2⟩ := fieldS hlen hf 2 _ rfl 2 1 (t := 2) rfl rfl cells2
  obtain ⟨y2, r2, w2⟩ := open2 g2
  obtain ⟨z3, g3⟩ := fieldS hlen hf 3 _ rfl 3 1 (t := 2) rfl rfl cells2
  obtain ⟨y3, r3, w3⟩ := open2 g3
  obtain ⟨z4, g4⟩ := fieldS hlen hf 4 _ rfl 4 1 (t := 76) rfl rfl cells76
  obtain ⟨y4, r4, w4⟩ := open76 g4
  exact ⟨api_Chain.mk y0 y1 y2 y3 y4, (f2_split r0 (f2_split r1 (f2_split r2 (f2_split r3 (f2_split r4 (f2_end (by omega)))))) : F2 (LR w) _ (cs.drop 0)), w0, w1, w2, w3, w4⟩
theorem open59 {H : Type} {enc : TypeId × Value → H} {w : World} {base : Nat} {spare : Nat → Bool} {held : Bool} {fuel : Nat} {cs : List Value} {x : DataW H × List MemPlace} (h : DataW.trod enc Try.prog w base spare held fuel 59 cs = some x) : ∃ y : (List api_Chain), F2 (LR w) (eL 5 enc_api_Chain y) cs ∧ (wfL wf_api_Chain) y :=
  open_s enc_api_Chain wf_api_Chain 5 Try.underlying59 cells78 (by decide) (fun _ => rfl) (fun _ _ _ h => open78 h) h
theorem open61 {H : Type} {enc : TypeId × Value → H} {w : World} {base : Nat} {spare : Nat → Bool} {held : Bool} {fuel : Nat} {cs : List Value} {x : DataW H × List MemPlace} (h : DataW.trod enc Try.prog w base spare held fuel 61 cs = some x) : ∃ y : api_Sample, F2 (LR w) (enc_api_Sample y) cs ∧ wf_api_Sample y := by
  obtain ⟨xs, n, _, _, hl, hlen, hf⟩ := DataW.trod_struct Try.underlying61 h
  rw [cells61] at hl
  obtain ⟨z0, g0⟩ := fieldS hlen hf 0 _ rfl 0 1 (t := 59) rfl rfl cells59
  obtain ⟨y0, r0, w0⟩ := open59 g0
  exact ⟨api_Sample.mk y0, (f2_split r0 (f2_end (by omega)) : F2 (LR w) _ (cs.drop 0)), w0⟩
theorem open50 {H : Type} {enc : TypeId × Value → H} {w : World} {base : Nat} {spare : Nat → Bool} {held : Bool} {fuel : Nat} {cs : List Value} {x : DataW H × List MemPlace} (h : DataW.trod enc Try.prog w base spare held fuel 50 cs = some x) : ∃ y : (List Int), F2 (LR w) (eL 1 (eI .i64) y) cs ∧ (wfL (wfI .i64)) y :=
  open_s (eI .i64) (wfI .i64) 1 Try.underlying50 cells2 (by decide) (fun _ => rfl) (fun _ _ _ h => open2 h) h

theorem walk (w : World) (p0 : api_Sample) (c0 : Array Value) (r0 : F2 (LR w) (enc_api_Sample p0) c0.toList) (w0 : wf_api_Sample p0) (p1 : Int) (w1 : wfI .i64 p1) (p2 : (List Int)) (v2 : Value) (r2 : F2 (LR w) (eL 1 (eI .i64) p2) [v2]) (w2 : (wfL (wfI .i64)) p2) : Calls Try.prog 10 #[.agg c0, .int .i64 p1, v2] w fun e w' => e = .returned (.bool true) ∧ (Grown w w' ∧ Below w.heap.size w w') :=
  (c_law19_SampleAdds p0 p1 p2 true (law19_SampleAdds_true p0 p1 p2 w0 w1 w2)).law2 w _ rfl (fun i c hi => by
    match i, hi with
    | 0, hi => cases hi; exact ⟨_, rfl, vr1_struct r0⟩
    | 1, hi => cases hi; exact ⟨_, rfl, rfl⟩
    | 2, hi => cases hi; exact ⟨_, rfl, vr1_one r2⟩)

set_option maxRecDepth 100000 in
theorem lifted (os : Os) (started : os.Started) (H : Type) (enc : TypeId × Value → H) :
    ReturnsInHanded {} Try.checked os 10 .any (Rows.sampleAddsSpec.pre6 enc Try.prog Try.f10 Rows.sampleAddsRow.domain false) (Rows.sampleAddsSpec.post enc Try.prog Try.f10 false true false false) := by
  refine returnsInHanded_of_change (C := Try.checked) own started (by kernel_rfl) Try.func10
    (ChangeSpec.witness6 (enc := enc) (C := Try.checked) false ⟨#[], #[.agg #[.slice none 0 0], .int .i64 0, .slice none 0 0], []⟩ 8 (by kernel_rfl) (by kernel_rfl) (by kernel_rfl) (by kernel_rfl)) ?_
  intro W base args ds gs before hval0 hW hcnd _
  have hval : ∀ (j : Nat) t v, Try.f10.params[j]? = some t → args[j]? = some v → Value.okWide Try.prog W .any base t v := hval0
  have hW' := hW
  obtain ⟨p, q, hA0, hV, rfl, hfz, hnd⟩ := hW
  have hA : DataW.TrodAll enc Try.prog W 0 (fun _ => true) true Try.f10.params.toList args.toList ds p := hA0
  rw [Try.params10] at hA hval
  obtain ⟨v0, vs0, d0, ds0, pl0, q0, hargs, rfl, rfl, h0, r0⟩ := trodAll_cons hA
  obtain ⟨v1, vs1, d1, ds1, pl1, q1, rfl, rfl, rfl, h1, r1⟩ := trodAll_cons r0
  obtain ⟨v2, vs2, d2, ds2, pl2, q2, rfl, rfl, rfl, h2, r2⟩ := trodAll_cons r1
  obtain ⟨rfl, rfl, rfl⟩ := trodAll_nil r2
  obtain rfl : args = #[v0, v1, v2] := by cases args; simp_all
  obtain ⟨rfl, rfl⟩ := trodVars_none hV
  obtain ⟨cs0, rfl, _⟩ := okWide_struct Try.underlying61 (hval 0 61 v0 rfl rfl)
  have hk0 := h0
  obtain ⟨fuel0, hf0⟩ := h0
  obtain ⟨a0, ra0, wa0⟩ := open61 hf0
  obtain ⟨a1, rfl, rfl, rfl, w1⟩ := open_int Try.underlying2 (hval 1 2 v1 rfl rfl) h1
  obtain ⟨ad2, len2, cap2, rfl⟩ := okWide_slice Try.underlying50 (hval 2 50 v2 rfl rfl)
  have hk2 := h2
  obtain ⟨fuel2, hf2⟩ := h2
  obtain ⟨a2, ra2, wa2⟩ := open50 hf2
  clear hA0 hval0
  simp only [List.append_nil, List.nil_append] at hW'
  have hlt0 : ∀ x ∈ pl0, x.block < W.heap.size := fun x hx => hW'.lt x (by simp [hx])
  have hlt2 : ∀ x ∈ pl2, x.block < W.heap.size := fun x hx => hW'.lt x (by simp [hx])
  refine (walk W a0 _ ra0 wa0 a1 w1 a2 _ ra2 wa2).mono fun e W' ⟨he, hg, hb⟩ => ?_
  subst he
  exact ⟨_, rfl, post_of_same (pa := pl0 ++ pl2) (pv := []) hW' (fun _ _ _ => (trodAll_cons_mk (shut_bool Try.underlying4 _) trodAll_mk0))
    (fun sp hsp => by
      have : DataW.TrodAll enc Try.prog W' 0 sp true [61, 2, 50] [Value.agg cs0, .int .i64 a1, Value.slice ad2 len2 cap2] [d0, .lit (.int .i64 a1), d2] _ := (trodAll_cons_mk (arg_stays laidOut (by kernel_rfl) (of_decide_eq_true (by kernel_rfl)) hk0 hb hlt0 (fun x hx => hsp x (by simp [hx]))) (trodAll_cons_mk (shut_int Try.underlying2 w1) (trodAll_cons_mk (arg_stays laidOut (by kernel_rfl) (of_decide_eq_true (by kernel_rfl)) hk2 hb hlt2 (fun x hx => hsp x (by simp [hx]))) trodAll_mk0)))
      have h2 : DataW.TrodAll enc Try.prog W' 0 sp true [61, 2, 50] [Value.agg cs0, .int .i64 a1, Value.slice ad2 len2 cap2] [d0, .lit (.int .i64 a1), d2] (pl0 ++ pl2) := by simpa using this
      exact h2) (fun _ _ => rfl) (by simp)
    (hg.frame _) hg.2.1 (ok_one (by kernel_rfl) rfl (okWide_bool_mk Try.underlying4 _))⟩

theorem over : Rows.sampleAddsRow.holds Try.pinned (OpenSpec.ofChange Rows.sampleAddsSpec) :=
  OpenClaim.holds_of_wide 10 Try.f10 rfl rfl rfl rfl rfl rfl rfl ⟨rfl, rfl, rfl, rfl, rfl⟩ rfl rfl rfl rfl rfl (by kernel_rfl) Try.func10 (by kernel_rfl)
    (of_decide_eq_true (by kernel_rfl)) (by unfold Func.isWrapper; first | (rw [if_pos (by decide +kernel)]; kernel_rfl) | (rw [if_neg (by decide +kernel)]; exact ⟨rfl, rfl⟩))
    (fun os started H enc _ => lifted os started H enc)

theorem proved : Rows.SampleAddsSaid :=
  over
#print axioms proved
end Go.Proofs.Ytbolhhoklijnpaa.sampleAdds
