/- The law SampleStates of package windowpanelaw19 answers true at every input, and leaves its arguments as they were. Conditions: none. -/
import Derived.Test.YtbolhhoklijnpaaRows
import Derived.Test.YtbolhhoklijnpaaCon
import Derived.Test.YtbolhhoklijnpaaVc
import Derived.Test.YtbolhhoklijnpaaPu19
import Derived.ProofKit
import Derived.OpenShut
set_option linter.unusedVariables false
namespace Go.Proofs.Ytbolhhoklijnpaa.sampleStates
open Go.Vc Go.Dec Go.Win Go.ChangeShapes Go.WideShapes Go.ChangeAt Go.RowKit

theorem own : ownKnob Try.prog.godebug = none := by kernel_rfl
theorem laidOut : laidOutB Try.prog = true := by kernel_rfl
theorem cells2 : Try.prog.cellsOf 2 = 1 := by kernel_rfl
theorem cells3 : Try.prog.cellsOf 3 = 1 := by kernel_rfl
theorem cells183 : Try.prog.cellsOf 183 = 2 := by kernel_rfl
theorem cells76 : Try.prog.cellsOf 76 = 1 := by kernel_rfl
theorem cells78 : Try.prog.cellsOf 78 = 5 := by kernel_rfl
theorem cells59 : Try.prog.cellsOf 59 = 1 := by kernel_rfl
theorem cells61 : Try.prog.cellsOf 61 = 1 := by kernel_rfl

theorem open2 {H : Type} {enc : TypeId × Value → H} {w : World} {base : Nat} {spare : Nat → Bool} {held : Bool} {fuel : Nat} {cs : List Value} {x : DataW H × List MemPlace} (h : DataW.trod enc Try.prog w base spare held fuel 2 cs = some x) : ∃ y : Int, F2 (LR w) (eI .i64 y) cs ∧ wfI .i64 y := open_i Try.underlying2 h
theorem open3 {H : Type} {enc : TypeId × Value → H} {w : World} {base : Nat} {spare : Nat → Bool} {held : Bool} {fuel : Nat} {cs : List Value} {x : DataW H × List MemPlace} (h : DataW.trod enc Try.prog w base spare held fuel 3 cs = some x) : ∃ y : Int, F2 (LR w) (eI .i64 y) cs ∧ wfI .i64 y := open_i Try.underlying3 h
theorem open183 {H : Type} {enc : TypeId × Value → H} {w : World} {base : Nat} {spare : Nat → Bool} {held : Bool} {fuel : Nat} {cs : List Value} {x : DataW H × List MemPlace} (h : DataW.trod enc Try.prog w base spare held fuel 183 cs = some x) : ∃ y : api_Link, F2 (LR w) (enc_api_Link y) cs ∧ wf_api_Link y := by
  obtain ⟨xs, n, _, _, hl, hlen, hf⟩ := DataW.trod_struct Try.underlying183 h
  rw [cells183] at hl
  obtain ⟨z0, g0⟩ := fieldS hlen hf 0 _ rfl 0 1 (t := 2) rfl rfl cells2
  obtain ⟨y0, r0, w0⟩ := open2 g0
  obtain ⟨z1, g1⟩ := fieldS hlen hf 1 _ rfl 1 1 (t := 2) rfl rfl cells2
  obtain ⟨y1, r1, w1⟩ := open2 g1
  exact ⟨api_Link.mk y0 y1, (f2_split r0 (f2_split r1 (f2_end (by omega))) : F2 (LR w) _ (cs.drop 0)), w0, w1⟩
theorem open76 {H : Type} {enc : TypeId × Value → H} {w : World} {base : Nat} {spare : Nat → Bool} {held : Bool} {fuel : Nat} {cs : List Value} {x : DataW H × List MemPlace} (h : DataW.trod enc Try.prog w base spare held fuel 76 cs = some x) : ∃ y : (List api_Link), F2 (LR w) (eL 2 enc_api_Link y) cs ∧ (wfL wf_api_Link) y :=
  open_s enc_api_Link wf_api_Link 2 Try.underlying76 cells183 (by decide) (fun _ => rfl) (fun _ _ _ h => open183 h) h
theorem open78 {H : Type} {enc : TypeId × Value → H} {w : World} {base : Nat} {spare : Nat → Bool} {held : Bool} {fuel : Nat} {cs : List Value} {x : DataW H × List MemPlace} (h : DataW.trod enc Try.prog w base spare held fuel 78 cs = some x) : ∃ y : api_Chain, F2 (LR w) (enc_api_Chain y) cs ∧ wf_api_Chain y := by
  obtain ⟨xs, n, _, _, hl, hlen, hf⟩ := DataW.trod_struct Try.underlying78 h
  rw [cells78] at hl
  obtain ⟨z0, g0⟩ := fieldS hlen hf 0 _ rfl 0 1 (t := 2) rfl rfl cells2
  obtain ⟨y0, r0, w0⟩ := open2 g0
  obtain ⟨z1, g1⟩ := fieldS hlen hf 1 _ rfl 1 1 (t := 3) rfl rfl cells3
  obtain ⟨y1, r1, w1⟩ := open3 g1
  obtain ⟨z2, g2⟩ := fieldS hlen hf 2 _ rfl 2 1 (t := 2) rfl rfl cells2
  obtain ⟨y2, r2, w2⟩ := open2 g2
  obtain ⟨z3, g3⟩ := fieldS hlen hf 3 _ rfl 3 1 (t := 2) rfl rfl cells2
  obtain ⟨y3, r3, w3⟩ := open2 g3
  obtain ⟨z4, g4⟩ := fieldS hlen hf 4 _ rfl 4 1 (t := 76) rfl rfl cells76
  obtain ⟨y4, r4, w4⟩ := open76 g4
  exact ⟨api_Chain.mk y0 y1 y2 y3 y4, (f2_split r0 (f2_split r1 (f2_split r2 (f2_split r3 (f2_split r4 (f2_end (by omega)))))) : F2 (LR w) _ (cs.drop 0)), w0, w1, w2, w3, w4⟩
theorem open59 {H : Type} {enc : TypeId × Value → H} {w : World} {base : Nat} {spare : Nat → Bool} {held : Bool} {fuel : Nat} {cs : List Value} {x : DataW H × List MemPlace} (h : DataW.trod enc Try.prog w base spare held fuel 59 cs = some x) : ∃ y : (List api_Chain), F2 (LR w) (eL 5 enc_api_Chain y) cs ∧ (wfL wf_api_Chain) y :=
  open_s enc_api_Chain wf_api_Chain 5 Try.underlying59 cells78 (by decide) (fun _ => rfl) (fun _ _ _ h => open78 h) h
theorem open61 {H : Type} {enc : TypeId × Value → H} {w : World} {base : Nat} {spare : Nat → Bool} {held : Bool} {fuel : Nat} {cs : List Value} {x : DataW H × List MemPlace} (h : DataW.trod enc Try.prog w base spare held fuel 61 cs = some x) : ∃ y : api_Sample, F2 (LR w) (enc_api_Sample y) cs ∧ wf_api_Sample y := by
  obtain ⟨xs, n, _, _, hl, hlen, hf⟩ := DataW.trod_struct Try.underlying61 h
  rw [cells61] at hl
  obtain ⟨z0, g0⟩ := fieldS hlen hf 0 _ rfl 0 1 (t := 59) rfl rfl cells59
  obtain ⟨y0, r0, w0⟩ := open59 g0
  exact ⟨api_Sample.mk y0, (f2_split r0 (f2_end (by omega)) : F2 (LR w) _ (cs.drop 0)), w0⟩

theorem walk (w : World) (p0 : api_Sample) (c0 : Array Value) (r0 : F2 (LR w) (enc_api_Sample p0) c0.toList) (w0 : wf_api_Sample p0) : Calls Try.prog 9 #[.agg c0] w fun e w' => e = .returned (.bool true) ∧ (Grown w w' ∧ Below w.heap.size w w') :=
  (c_law19_SampleStates p0 true (law19_SampleStates_true p0 w0)).law2 w _ rfl (fun i c hi => by
    match i, hi with
    | 0, hi => cases hi; exact ⟨_, rfl, vr1_struct r0⟩)

set_option maxRecDepth 100000 in
theorem lifted (os : Os) (started : os.Started) (H : Type) (enc : TypeId × Value → H) :
    ReturnsInHanded {} Try.checked os 9 .any (Rows.sampleStatesSpec.pre6 enc Try.prog Try.f9 Rows.sampleStatesRow.domain false) (Rows.sampleStatesSpec.post enc Try.prog Try.f9 false true false false) := by
  refine returnsInHanded_of_change (C := Try.checked) own started (by kernel_rfl) Try.func9
    (ChangeSpec.witness6 (enc := enc) (C := Try.checked) false ⟨#[], #[.agg #[.slice none 0 0]], []⟩ 8 (by kernel_rfl) (by kernel_rfl) (by kernel_rfl) (by kernel_rfl)) ?_
  intro W base args ds gs before hval0 hW hcnd _
  have hval : ∀ (j : Nat) t v, Try.f9.params[j]? = some t → args[j]? = some v → Value.okWide Try.prog W .any base t v := hval0
  have hW' := hW
  obtain ⟨p, q, hA0, hV, rfl, hfz, hnd⟩ := hW
  have hA : DataW.TrodAll enc Try.prog W 0 (fun _ => true) true Try.f9.params.toList args.toList ds p := hA0
  rw [Try.params9] at hA hval
  obtain ⟨v0, vs0, d0, ds0, pl0, q0, hargs, rfl, rfl, h0, r0⟩ := trodAll_cons hA
  obtain ⟨rfl, rfl, rfl⟩ := trodAll_nil r0
  obtain rfl : args = #[v0] := by cases args; simp_all
  obtain ⟨rfl, rfl⟩ := trodVars_none hV
  obtain ⟨cs0, rfl, _⟩ := okWide_struct Try.underlying61 (hval 0 61 v0 rfl rfl)
  have hk0 := h0
  obtain ⟨fuel0, hf0⟩ := h0
  obtain ⟨a0, ra0, wa0⟩ := open61 hf0
  clear hA0 hval0
  simp only [List.append_nil, List.nil_append] at hW'
  have hlt0 : ∀ x ∈ pl0, x.block < W.heap.size := fun x hx => hW'.lt x (by simp [hx])
  refine (walk W a0 _ ra0 wa0).mono fun e W' ⟨he, hg, hb⟩ => ?_
  subst he
  exact ⟨_, rfl, post_of_same (pa := pl0) (pv := []) hW' (fun _ _ _ => (trodAll_cons_mk (shut_bool Try.underlying4 _) trodAll_mk0))
    (fun sp hsp => by
      have : DataW.TrodAll enc Try.prog W' 0 sp true [61] [Value.agg cs0] [d0] _ := (trodAll_cons_mk (arg_stays laidOut (by kernel_rfl) (of_decide_eq_true (by kernel_rfl)) hk0 hb hlt0 (fun x hx => hsp x (by simp [hx]))) trodAll_mk0)
      have h2 : DataW.TrodAll enc Try.prog W' 0 sp true [61] [Value.agg cs0] [d0] (pl0) := by simpa using this
      exact h2) (fun _ _ => rfl) (by simp)
    (hg.frame _) hg.2.1 (ok_one (by kernel_rfl) rfl (okWide_bool_mk Try.underlying4 _))⟩

theorem over : Rows.sampleStatesRow.holds Try.pinned (OpenSpec.ofChange Rows.sampleStatesSpec) :=
  OpenClaim.holds_of_wide 9 Try.f9 rfl rfl rfl rfl rfl rfl rfl ⟨rfl, rfl, rfl, rfl, rfl⟩ rfl rfl rfl rfl rfl (by kernel_rfl) Try.func9 (by kernel_rfl)
    (of_decide_eq_true (by kernel_rfl)) (by unfold Func.isWrapper; first | (rw [if_pos (by decide +kernel)]; kernel_rfl) | (rw [if_neg (by decide +kernel)]; exact ⟨rfl, rfl⟩))
    (fun os started H enc _ => lifted os started H enc)

theorem proved : Rows.SampleStatesSaid :=
  over
#print axioms proved
end Go.Proofs.Ytbolhhoklijnpaa.sampleStates
