/- Vc, part 8: boxes made, read and written; pointers into them. -/
import Derived.Test.YtfnkbbeeilpiiaaVc7
namespace Go.Vc
open Go.RowKit

theorem PR.vr0 {m : Mem} {x : AV} {u : Value} (h : PR m.w m.ok x u) : VR0 m x u := by
  cases x <;> first | exact h | (cases h; rfl) | cases h

theorem one_cells {u : Value} (h : u.oneCell' = true) : u.cells = #[u] := by
  cases u <;> first | rfl | cases h

/-- A value that is none of the three. -/
theorem vr0_one {m : Mem} {c : AV} {u : Value} (h : VR0 m c u) (hc : c ≠ .junk) : u.oneCell' = true := by
  cases c <;> simp only [VR0] at h <;> first | (subst h; rfl) | exact h.2.1 | exact h.oneCell | (obtain ⟨ad, rfl, _⟩ := h; rfl) | exact absurd rfl hc | exact h.elim

theorem solid_vr {m : Mem} {v : AV} {u : Value} (h : VR m v u) (hs : solid v.cells = true) : u.cells.size = v.cells.length ∧
    ∀ (j : Nat) (c : AV), v.cells[j]? = some c → ∃ x, u.cells[j]? = some x ∧ x.oneCell' = true ∧ VR0 m c x := by
  by_cases hv : ∃ cs, v = .agg cs
  · obtain ⟨cs, rfl⟩ := hv
    obtain ⟨vs, rfl, h2, h3⟩ := h
    exact ⟨h2, h3⟩
  · have hcell : v.cells = [v] := by
      cases v <;> first | rfl | exact absurd ⟨_, rfl⟩ hv
    have h0 : VR0 m v u ∧ v ≠ .junk := by
      rw [hcell] at hs
      cases v
      case junk => simp [solid] at hs
      case tup => simp [solid] at hs
      case agg => exact absurd ⟨_, rfl⟩ hv
      all_goals exact ⟨h, by simp⟩
    have h1 := vr0_one h0.1 h0.2
    rw [hcell, one_cells h1]
    refine ⟨rfl, fun j c hj => ?_⟩
    cases j with
    | zero => cases hj; exact ⟨u, rfl, h1, h0.1⟩
    | succ j => simp at hj

/-! ### New boxes -/

theorem opOk_newBox {F : Fr} {A : Nat → Prop} {id : Nat} {o : Oper} {s : AS} (hd : ∀ k, o.dst = some k → k < F.N) (cs : List AV)
    (h : ∀ a m, StX F a m → m.s = s → ∃ (cur : Array Value) (e : TypeId), (execOp a.eval o).run F.P m.w = .ok (.value (.pointer (some ⟨m.w.heap.size, 0, none⟩))) (m.w.alloc (.cells cur e)) ∧
      cur.size = cs.length ∧ ∀ (j : Nat) (c : AV), cs[j]? = some c → ∃ u, cur[j]? = some u ∧ u.oneCell' = true ∧ VR0 m c u) :
    OpOk F A id o s (dst o.dst (.ptr id 0) ++ [(.box id, .box cs)]) :=
  opOk_value fun a m hx hs hA hid => by
    obtain ⟨cur, e, h1, h2, h3⟩ := h a m hx hs
    subst hs hA
    refine ⟨_, _, h1, ?_⟩
    have h4 := hx.newBox id cs cur e hid h2 h3
    have hv : VR (m.newBox id cs cur e) (.ptr id 0) (.pointer (some ⟨m.w.heap.size, 0, none⟩)) :=
      ⟨Or.inr rfl, rfl, fun _ => by
        show _ = Value.pointer (some ⟨upd m.β id m.w.heap.size id, 0, none⟩)
        rw [upd_same]⟩
    have h5 := h4.dst o.dst _ _ hd hv
    cases hod : o.dst with
    | none => rw [hod] at h5; exact ⟨_, _, _, h5⟩
    | some d => rw [hod] at h5; exact ⟨_, _, _, h5⟩

theorem ok_alloc {F : Fr} {A : Nat → Prop} {id : Nat} {o : Oper} {s : AS} (hd : ∀ k, o.dst = some k → k < F.N) (t : TypeId) (ho : o.op = .alloc t) (ti : TI) (ht : TIok F.P t ti) :
    OpOk F A id o s (dst o.dst (.ptr id 0) ++ [(.box id, .box ti.zero)]) :=
  opOk_newBox hd ti.zero fun a m _ _ => by
    obtain ⟨z, h1, h2, h3, h4⟩ := ht.zero m.w
    refine ⟨z.cells, t, ?_, by rw [h2, h3], fun j c hj => ?_⟩
    · simp only [execOp, ho, Instr.alloc, Sem.run_bind, h1, Result.andThen_ok, newVar, newRow, run_newObj]
      rfl
    · obtain ⟨u, g1, g2, g3⟩ := h4 j c hj
      exact ⟨u, g1, g2, g3.vr⟩

theorem ok_box {F : Fr} {A : Nat → Prop} {id : Nat} {o : Oper} {s : AS} (hd : ∀ k, o.dst = some k → k < F.N) (t : TypeId) (x : Operand) (ho : o.op = .box t x) (hsol : solid (s.val x).cells = true) :
    OpOk F A id o s (dst o.dst (.ptr id 0) ++ [(.box id, .box (s.val x).cells)]) :=
  opOk_newBox hd _ fun a m hx hs => by
    subst hs
    obtain ⟨h1, h2⟩ := solid_vr (hx.val x) hsol
    refine ⟨(a.eval x).cells, t, ?_, h1, h2⟩
    simp only [execOp, ho, Instr.box, Sem.run_bind, Result.andThen_ok, newVar, newRow, run_newObj]
    rfl


/-! ### Reading -/

theorem ofCells_vr {m : Mem} {ti : TI} (cs : List AV) (hl : cs.length = ti.size) (hp : 0 < ti.size) (vs : List Value) (hv : vs.length = cs.length)
    (h : ∀ (j : Nat) (c : AV), cs[j]? = some c → ∃ u, vs[j]? = some u ∧ u.oneCell' = true ∧ VR0 m c u) :
    VR m (ofCells ti cs) (if ti.agg then .agg vs.toArray else vs.headD undef) := by
  unfold ofCells
  cases ha : ti.agg with
  | true =>
    simp only [if_true]
    exact ⟨vs.toArray, rfl, by simpa using hv, fun j c hj => by simpa using h j c hj⟩
  | false =>
    simp only [Bool.false_eq_true, if_false]
    match cs, hl with
    | [], hl => simp at hl; omega
    | [c], _ =>
      obtain ⟨u, g1, _, g3⟩ := h 0 c rfl
      match vs, g1 with
      | v :: _, g1 =>
        cases g1
        have hvr : VR m c u := by cases c <;> first | exact g3 | exact (show False from g3).elim
        exact hvr
    | _ :: _ :: _, _ => trivial

theorem run_loadVar_cells {P : Program} {t : TypeId} {ti : TI} (ht : TIok P t ti) (w : World) (ad : Addr) (hp : 0 < ti.size) (vs : List Value) (hl : vs.length = ti.size)
    (h : ∀ (j : Nat) (u : Value), vs[j]? = some u → w.cell? (ad.add j) = some u) : (loadVar t ad).run P w = .ok (if ti.agg then .agg vs.toArray else vs.headD undef) w := by
  simp only [loadVar, Sem.run_bind, ht.isAgg, Result.andThen_ok]
  cases ti.agg with
  | true =>
    simp only [if_true, Sem.run_bind, ht.size, Result.andThen_ok]
    rw [← hl, run_loadCells_list w ad vs h]
    rfl
  | false =>
    simp only [Bool.false_eq_true, if_false]
    match vs, hl with
    | [], hl => simp at hl; omega
    | v :: _, _ =>
      have h0 := h 0 v rfl
      have : ad.add 0 = ad := by simp [Addr.add]
      rw [this] at h0
      simp [load, Sem.run, h0]

theorem ok_loadBox {F : Fr} {A : Nat → Prop} {id : Nat} {o : Oper} {s : AS} (hd : ∀ k, o.dst = some k → k < F.N) (t : TypeId) (x : Operand) (ho : o.op = .load t x) (ti : TI) (ht : TIok F.P t ti)
    (b off : Nat) (hx : s.val x = .ptr b off) (cs : List AV) (hb : s (.box b) = .box cs) (hf : off + ti.size ≤ cs.length) (hp : 0 < ti.size) :
    OpOk F A id o s (dst o.dst (ofCells ti ((cs.drop off).take ti.size))) :=
  opOk_pure hd fun a m h hs => by
    subst hs
    have h1 := h.val x
    rw [hx] at h1
    have h1' := (show VR0 m (.ptr b off) (a.eval x) from h1).2.2 ⟨cs, hb⟩
    obtain ⟨_, _, cur, e, g3, g4, g5⟩ := h.mr.box b cs hb
    have hlen : ((cs.drop off).take ti.size).length = ti.size := by simp; omega
    have hlen2 : ((cur.toList.drop off).take ti.size).length = ti.size := by simp; omega
    refine ⟨_, ?_, ofCells_vr _ hlen hp ((cur.toList.drop off).take ti.size) (hlen2.trans hlen.symm) (fun j c hj => ?_)⟩
    · simp only [execOp, ho, h1', Instr.loadAt, Instr.sureAddr, Sem.run_bind, Sem.run_pure, Result.andThen_ok]
      rw [run_loadVar_cells ht m.w _ hp ((cur.toList.drop off).take ti.size) hlen2 (fun j u hj => by
        rw [Addr.add_lit, cell_of_row m.w _ _ cur e _ g3]
        rw [List.getElem?_take] at hj
        split at hj
        · rw [List.getElem?_drop] at hj; simpa using hj
        · cases hj)]
      rfl
    · rw [List.getElem?_take] at hj ⊢
      split at hj
      · rename_i hlt
        rw [List.getElem?_drop] at hj
        rw [if_pos hlt, List.getElem?_drop]
        obtain ⟨u, e1, e2⟩ := g5 _ c hj
        exact ⟨u, by simpa using e1, e2⟩
      · cases hj

theorem ok_loadRp {F : Fr} {A : Nat → Prop} {id : Nat} {o : Oper} {s : AS} (hd : ∀ k, o.dst = some k → k < F.N) (t : TypeId) (x : Operand) (ho : o.op = .load t x) (ti : TI) (ht : TIok F.P t ti)
    (cs : List AV) (hx : s.val x = .rp cs) (hf : ti.size ≤ cs.length) (hp : 0 < ti.size) :
    OpOk F A id o s (dst o.dst (ofCells ti (cs.take ti.size))) :=
  opOk_pure hd fun a m h hs => by
    subst hs
    have h1 := h.val x
    rw [hx] at h1
    obtain ⟨ad, e1, e2, e3⟩ := (show VR0 m (.rp cs) (a.eval x) from h1)
    obtain ⟨b, off, sp⟩ := ad
    simp only at e2
    subst e2
    have hlen : (cs.take ti.size).length = ti.size := by simp; omega
    -- the values
    have hvals : ∃ vs : List Value, vs.length = ti.size ∧ ∀ j, j < ti.size → ∃ u x, vs[j]? = some u ∧ cs[j]? = some x ∧ m.w.cell? ⟨b, off + j, none⟩ = some u ∧ PR m.w m.ok x u := by
      refine ⟨(List.range ti.size).map (fun j => (m.w.cell? ⟨b, off + j, none⟩).getD undef), by simp, fun j hj => ?_⟩
      have hj' : j < cs.length := by omega
      obtain ⟨_, u, q1, q2⟩ := e3 j cs[j] (by simp [hj'])
      exact ⟨u, cs[j], by simp [hj, q1], by simp [hj'], q1, q2⟩
    obtain ⟨vs, k1, k2⟩ := hvals
    refine ⟨_, ?_, ofCells_vr _ hlen hp vs (k1.trans hlen.symm) (fun j c hj => ?_)⟩
    · simp only [execOp, ho, e1, Instr.loadAt, Instr.sureAddr, Sem.run_bind, Sem.run_pure, Result.andThen_ok]
      rw [run_loadVar_cells ht m.w _ hp vs k1 (fun j u hj => by
        have hlt : j < ti.size := by rw [← k1]; exact (List.getElem?_eq_some_iff.1 hj).1
        obtain ⟨u', x', q1, _, q3, _⟩ := k2 j hlt
        rw [hj] at q1; cases q1
        rw [Addr.add_lit]; exact q3)]
      rfl
    · rw [List.getElem?_take] at hj
      split at hj
      · rename_i hlt
        obtain ⟨u, x', q1, q2, _, q4⟩ := k2 j hlt
        rw [hj] at q2; cases q2
        exact ⟨u, q1, q4.oneCell, q4.vr0⟩
      · cases hj

end Go.Vc
