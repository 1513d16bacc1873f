/- The law RecentAsks of package windowpanelaw09 answers true at every input, and leaves its arguments as they were. Conditions: none. -/
import Derived.Test.YtpclnmpmammlfaaGreatRows
import Derived.Test.YtpclnmpmammlfaaGreatCon
import Derived.Test.YtpclnmpmammlfaaGreatVc
import Derived.Test.YtpclnmpmammlfaaGreatPuRecent
import Derived.ProofKit
import Derived.OpenShut
set_option linter.unusedVariables false
namespace Go.Proofs.YtpclnmpmammlfaaGreat.recentAsks
open Go.Vc Go.Dec Go.Win Go.ChangeShapes Go.WideShapes Go.ChangeAt Go.RowKit

theorem own : ownKnob Tryz.prog.godebug = none := by kernel_rfl
theorem laidOut : laidOutB Tryz.prog = true := by kernel_rfl
theorem cells2 : Tryz.prog.cellsOf 2 = 1 := by kernel_rfl
theorem cells3 : Tryz.prog.cellsOf 3 = 1 := by kernel_rfl
theorem cells67 : Tryz.prog.cellsOf 67 = 2 := by kernel_rfl
theorem cells22 : Tryz.prog.cellsOf 22 = 1 := by kernel_rfl
theorem cells24 : Tryz.prog.cellsOf 24 = 4 := by kernel_rfl
theorem cells26 : Tryz.prog.cellsOf 26 = 3 := by kernel_rfl

theorem open2 {H : Type} {enc : TypeId × Value → H} {w : World} {base : Nat} {spare : Nat → Bool} {held : Bool} {fuel : Nat} {cs : List Value} {x : DataW H × List MemPlace} (h : DataW.trod enc Tryz.prog w base spare held fuel 2 cs = some x) : ∃ y : Int, F2 (LR w) (eI .i64 y) cs ∧ wfI .i64 y := open_i Tryz.underlying2 h
theorem open3 {H : Type} {enc : TypeId × Value → H} {w : World} {base : Nat} {spare : Nat → Bool} {held : Bool} {fuel : Nat} {cs : List Value} {x : DataW H × List MemPlace} (h : DataW.trod enc Tryz.prog w base spare held fuel 3 cs = some x) : ∃ y : Int, F2 (LR w) (eI .i64 y) cs ∧ wfI .i64 y := open_i Tryz.underlying3 h
theorem open67 {H : Type} {enc : TypeId × Value → H} {w : World} {base : Nat} {spare : Nat → Bool} {held : Bool} {fuel : Nat} {cs : List Value} {x : DataW H × List MemPlace} (h : DataW.trod enc Tryz.prog w base spare held fuel 67 cs = some x) : ∃ y : api_Item, F2 (LR w) (enc_api_Item y) cs ∧ wf_api_Item y := by
  obtain ⟨xs, n, _, _, hl, hlen, hf⟩ := DataW.trod_struct Tryz.underlying67 h
  rw [cells67] at hl
  obtain ⟨z0, g0⟩ := fieldS hlen hf 0 _ rfl 0 1 (t := 2) rfl rfl cells2
  obtain ⟨y0, r0, w0⟩ := open2 g0
  obtain ⟨z1, g1⟩ := fieldS hlen hf 1 _ rfl 1 1 (t := 2) rfl rfl cells2
  obtain ⟨y1, r1, w1⟩ := open2 g1
  exact ⟨api_Item.mk y0 y1, (f2_split r0 (f2_split r1 (f2_end (by omega))) : F2 (LR w) _ (cs.drop 0)), w0, w1⟩
theorem open22 {H : Type} {enc : TypeId × Value → H} {w : World} {base : Nat} {spare : Nat → Bool} {held : Bool} {fuel : Nat} {cs : List Value} {x : DataW H × List MemPlace} (h : DataW.trod enc Tryz.prog w base spare held fuel 22 cs = some x) : ∃ y : (List api_Item), F2 (LR w) (eL 2 enc_api_Item y) cs ∧ (wfL wf_api_Item) y :=
  open_s enc_api_Item wf_api_Item 2 Tryz.underlying22 cells67 (by decide) (fun _ => rfl) (fun _ _ _ h => open67 h) h
theorem open24 {H : Type} {enc : TypeId × Value → H} {w : World} {base : Nat} {spare : Nat → Bool} {held : Bool} {fuel : Nat} {cs : List Value} {x : DataW H × List MemPlace} (h : DataW.trod enc Tryz.prog w base spare held fuel 24 cs = some x) : ∃ y : api_Recent, F2 (LR w) (enc_api_Recent y) cs ∧ wf_api_Recent y := by
  obtain ⟨xs, n, _, _, hl, hlen, hf⟩ := DataW.trod_struct Tryz.underlying24 h
  rw [cells24] at hl
  obtain ⟨z0, g0⟩ := fieldS hlen hf 0 _ rfl 0 1 (t := 2) rfl rfl cells2
  obtain ⟨y0, r0, w0⟩ := open2 g0
  obtain ⟨z1, g1⟩ := fieldS hlen hf 1 _ rfl 1 1 (t := 3) rfl rfl cells3
  obtain ⟨y1, r1, w1⟩ := open3 g1
  obtain ⟨z2, g2⟩ := fieldS hlen hf 2 _ rfl 2 1 (t := 2) rfl rfl cells2
  obtain ⟨y2, r2, w2⟩ := open2 g2
  obtain ⟨z3, g3⟩ := fieldS hlen hf 3 _ rfl 3 1 (t := 22) rfl rfl cells22
  obtain ⟨y3, r3, w3⟩ := open22 g3
  exact ⟨api_Recent.mk y0 y1 y2 y3, (f2_split r0 (f2_split r1 (f2_split r2 (f2_split r3 (f2_end (by omega))))) : F2 (LR w) _ (cs.drop 0)), w0, w1, w2, w3⟩
theorem open26 {H : Type} {enc : TypeId × Value → H} {w : World} {base : Nat} {spare : Nat → Bool} {held : Bool} {fuel : Nat} {cs : List Value} {x : DataW H × List MemPlace} (h : DataW.trod enc Tryz.prog w base spare held fuel 26 cs = some x) : ∃ y : api_Query, F2 (LR w) (enc_api_Query y) cs ∧ wf_api_Query y := by
  obtain ⟨xs, n, _, _, hl, hlen, hf⟩ := DataW.trod_struct Tryz.underlying26 h
  rw [cells26] at hl
  obtain ⟨z0, g0⟩ := fieldS hlen hf 0 _ rfl 0 1 (t := 3) rfl rfl cells3
  obtain ⟨y0, r0, w0⟩ := open3 g0
  obtain ⟨z1, g1⟩ := fieldS hlen hf 1 _ rfl 1 1 (t := 2) rfl rfl cells2
  obtain ⟨y1, r1, w1⟩ := open2 g1
  obtain ⟨z2, g2⟩ := fieldS hlen hf 2 _ rfl 2 1 (t := 2) rfl rfl cells2
  obtain ⟨y2, r2, w2⟩ := open2 g2
  exact ⟨api_Query.mk y0 y1 y2, (f2_split r0 (f2_split r1 (f2_split r2 (f2_end (by omega)))) : F2 (LR w) _ (cs.drop 0)), w0, w1, w2⟩

theorem walk (w : World) (p0 : api_Recent) (c0 : Array Value) (r0 : F2 (LR w) (enc_api_Recent p0) c0.toList) (w0 : wf_api_Recent p0) (p1 : api_Query) (c1 : Array Value) (r1 : F2 (LR w) (enc_api_Query p1) c1.toList) (w1 : wf_api_Query p1) : Calls Tryz.prog 3 #[.agg c0, .agg c1] w fun e w' => e = .returned (.bool true) ∧ Below w.heap.size w w' :=
  (c_law09_RecentAsks p0 p1 true (law09_RecentAsks_true p0 p1 w0 w1)).law2 Tryz.call3 w _ rfl (fun i c hi => by
    match i, hi with
    | 0, hi => cases hi; exact ⟨_, rfl, vr1_struct r0⟩
    | 1, hi => cases hi; exact ⟨_, rfl, vr1_struct r1⟩)

set_option maxRecDepth 100000 in
theorem lifted (os : Os) (started : os.Started) (H : Type) (enc : TypeId × Value → H) :
    ReturnsInHanded {} Tryz.checked os 3 .any (Rows.recentAsksSpec.pre6 enc Tryz.prog Tryz.f3 Rows.recentAsksRow.domain false) (Rows.recentAsksSpec.post enc Tryz.prog Tryz.f3 false true false false) := by
  refine returnsInHanded_of_change (C := Tryz.checked) own started (by kernel_rfl) Tryz.func3
    (ChangeSpec.witness6 (enc := enc) (C := Tryz.checked) false ⟨#[], #[.agg #[.int .i64 0, .int .i64 0, .int .i64 0, .slice none 0 0], .agg #[.int .i64 0, .int .i64 0, .int .i64 0]], []⟩ 8 (by kernel_rfl) (by kernel_rfl) (by kernel_rfl) (by kernel_rfl)) ?_
  intro W base args ds gs before hval0 hW hcnd _
  have hval : ∀ (j : Nat) t v, Tryz.f3.params[j]? = some t → args[j]? = some v → Value.okWide Tryz.prog W .any base t v := hval0
  have hW' := hW
  obtain ⟨p, q, hA0, hV, rfl, hfz, hnd⟩ := hW
  have hA : DataW.TrodAll enc Tryz.prog W 0 (fun _ => true) true Tryz.f3.params.toList args.toList ds p := hA0
  rw [Tryz.params3] at hA hval
  obtain ⟨v0, vs0, d0, ds0, pl0, q0, hargs, rfl, rfl, h0, r0⟩ := trodAll_cons hA
  obtain ⟨v1, vs1, d1, ds1, pl1, q1, rfl, rfl, rfl, h1, r1⟩ := trodAll_cons r0
  obtain ⟨rfl, rfl, rfl⟩ := trodAll_nil r1
  obtain rfl : args = #[v0, v1] := by cases args; simp_all
  obtain ⟨rfl, rfl⟩ := trodVars_none hV
  obtain ⟨cs0, rfl, _⟩ := okWide_struct Tryz.underlying24 (hval 0 24 v0 rfl rfl)
  have hk0 := h0
  obtain ⟨fuel0, hf0⟩ := h0
  obtain ⟨a0, ra0, wa0⟩ := open24 hf0
  obtain ⟨cs1, rfl, _⟩ := okWide_struct Tryz.underlying26 (hval 1 26 v1 rfl rfl)
  have hk1 := h1
  obtain ⟨fuel1, hf1⟩ := h1
  obtain ⟨a1, ra1, wa1⟩ := open26 hf1
  clear hA0 hval0
  simp only [List.append_nil, List.nil_append] at hW'
  have hlt0 : ∀ x ∈ pl0, x.block < W.heap.size := fun x hx => hW'.lt x (by simp [hx])
  have hlt1 : ∀ x ∈ pl1, x.block < W.heap.size := fun x hx => hW'.lt x (by simp [hx])
  refine (walk W a0 _ ra0 wa0 a1 _ ra1 wa1).mono fun e W' ⟨he, hb⟩ => ?_
  subst he
  exact ⟨_, rfl, post_of_below (pa := pl0 ++ pl1) (pv := []) hW' (fun _ _ _ => (trodAll_cons_mk (shut_bool Tryz.underlying4 _) trodAll_mk0))
    (fun sp hsp => by
      have : DataW.TrodAll enc Tryz.prog W' 0 sp true [24, 26] [Value.agg cs0, Value.agg cs1] [d0, d1] _ := (trodAll_cons_mk (arg_stays laidOut (by kernel_rfl) (of_decide_eq_true (by kernel_rfl)) hk0 hb hlt0 (fun x hx => hsp x (by simp [hx]))) (trodAll_cons_mk (arg_stays laidOut (by kernel_rfl) (of_decide_eq_true (by kernel_rfl)) hk1 hb hlt1 (fun x hx => hsp x (by simp [hx]))) trodAll_mk0))
      have h2 : DataW.TrodAll enc Tryz.prog W' 0 sp true [24, 26] [Value.agg cs0, Value.agg cs1] [d0, d1] (pl0 ++ pl1) := by simpa using this
      exact h2) (fun _ _ => rfl) (by simp) hb
    (ok_one (by kernel_rfl) rfl (okWide_bool_mk Tryz.underlying4 _))⟩

theorem over : Rows.recentAsksRow.holds Tryz.pinned (OpenSpec.ofChange Rows.recentAsksSpec) :=
  OpenClaim.holds_of_wide 3 Tryz.f3 rfl rfl rfl rfl rfl rfl rfl ⟨rfl, rfl, rfl, rfl, rfl⟩ rfl rfl rfl rfl rfl (by kernel_rfl) Tryz.func3 (by kernel_rfl)
    (of_decide_eq_true (by kernel_rfl)) (by unfold Func.isWrapper; first | (rw [if_pos (by decide +kernel)]; kernel_rfl) | (rw [if_neg (by decide +kernel)]; exact ⟨rfl, rfl⟩))
    (fun os started H enc _ => lifted os started H enc)

theorem proved : Rows.RecentAsksSaid :=
  over
#print axioms proved
end Go.Proofs.YtpclnmpmammlfaaGreat.recentAsks
