/- Vc, part 9: stores into boxes, addresses of fields, struct values built. -/
import Derived.Test.YtfnkbbeeilpiiaaVc8
namespace Go.Vc
open Go.RowKit

theorem splice_length (cs news : List AV) (off : Nat) (h : off + news.length ≤ cs.length) : (splice cs off news).length = cs.length := by
  simp [splice]; omega

/-- Two rows spliced alike. -/
theorem splice_rel {R : AV → Value → Prop} (cs news : List AV) (vs us : List Value) (off : Nat) (hl : vs.length = cs.length) (hn : us.length = news.length) (hf : off + news.length ≤ cs.length)
    (h : ∀ (j : Nat) (c : AV), cs[j]? = some c → ∃ u, vs[j]? = some u ∧ R c u) (h' : ∀ (j : Nat) (c : AV), news[j]? = some c → ∃ u, us[j]? = some u ∧ R c u) :
    ∀ (j : Nat) (c : AV), (splice cs off news)[j]? = some c → ∃ u, (vs.take off ++ us ++ vs.drop (off + us.length))[j]? = some u ∧ R c u := by
  intro j c hj
  unfold splice at hj
  have htl : (cs.take off).length = off := by simp; omega
  have htv : (vs.take off).length = off := by simp; omega
  rw [List.append_assoc]
  by_cases h1 : j < off
  · rw [List.getElem?_append_left (by omega), List.getElem?_take, if_pos h1] at hj
    rw [List.getElem?_append_left (by omega), List.getElem?_take, if_pos h1]
    exact h j c hj
  · rw [List.getElem?_append_right (by omega), htl] at hj
    rw [List.getElem?_append_right (by omega), htv]
    by_cases h2 : j - off < news.length
    · rw [List.getElem?_append_left h2] at hj
      rw [List.getElem?_append_left (by omega)]
      exact h' _ c hj
    · rw [List.getElem?_append_right (by omega), List.getElem?_drop] at hj
      rw [List.getElem?_append_right (by omega), List.getElem?_drop, hn]
      exact h _ c hj

theorem run_storeVar_at {P : Program} {t : TypeId} {ti : TI} (ht : TIok P t ti) (w : World) (g off : Nat) (e : TypeId) (cur : Array Value) (hg : w.heap[g]? = some (.cells cur e (0, 0)))
    (v : Value) (hv : v.cells.size = ti.size) (h1 : ∀ u ∈ v.cells.toList, u.oneCell' = true) (hf : off + ti.size ≤ cur.size) :
    (storeVar t ⟨g, off, none⟩ v).run P w = .ok () (w.setRow g (cur.toList.take off ++ v.cells.toList ++ cur.toList.drop (off + v.cells.toList.length)).toArray) := by
  have := run_storeCells_at P g off e v.cells.toList 0 cur w hg (by simp [hv]; omega) h1
  simp only [Nat.add_zero] at this
  simp only [storeVar, Sem.run_bind, ht.size, Result.andThen_ok, hv, ne_eq, not_true_eq_false, if_false, this]

theorem ok_storeBox {F : Fr} {A : Nat → Prop} {id : Nat} {o : Oper} {s : AS} (hd : ∀ k, o.dst = some k → k < F.N) (t : TypeId) (x y : Operand) (ho : o.op = .store t x y) (ti : TI) (ht : TIok F.P t ti)
    (b off : Nat) (hx : s.val x = .ptr b off) (cs : List AV) (hb : s (.box b) = .box cs) (hsol : solid (s.val y).cells = true) (hl : (s.val y).cells.length = ti.size) (hf : off + ti.size ≤ cs.length) :
    OpOk F A id o s (dst o.dst .junk ++ [(.box b, .box (splice cs off (s.val y).cells))]) := by
  rintro a w ⟨β, τ, ok, hx0⟩ hA next Q hn
  generalize hm : (⟨s, β, τ, A, ok, w⟩ : Mem) = m at hx0
  have hs : m.s = s := by rw [← hm]
  have hw : m.w = w := by rw [← hm]
  subst hs
  have h1 := hx0.val x
  rw [hx] at h1
  have h1' := (show VR0 m (.ptr b off) (a.eval x) from h1).2.2 ⟨cs, hb⟩
  obtain ⟨h2, h3⟩ := solid_vr (hx0.val y) hsol
  obtain ⟨_, _, cur, e, g3, g4, g5⟩ := hx0.mr.box b cs hb
  have hone : ∀ u ∈ (a.eval y).cells.toList, u.oneCell' = true := by
    intro u hu
    obtain ⟨j, hj, rfl⟩ := List.mem_iff_getElem.1 hu
    have hj' : j < (m.s.val y).cells.length := by rw [← h2]; simpa using hj
    obtain ⟨x', q1, q2, _⟩ := h3 j _ (List.getElem?_eq_getElem hj')
    have : (a.eval y).cells[j]? = some (a.eval y).cells.toList[j] := by simp at hj ⊢
    rw [this] at q1
    cases q1
    exact q2
  have hrun : (execOp a.eval o).run F.P w = .ok .skip (w.setRow (m.β b) (cur.toList.take off ++ (a.eval y).cells.toList ++ cur.toList.drop (off + (a.eval y).cells.toList.length)).toArray) := by
    rw [← hw]
    simp only [execOp, ho, h1', Instr.storeAt, Instr.sureAddr, Sem.run_bind, Sem.run_pure, Result.andThen_ok]
    rw [run_storeVar_at ht m.w (m.β b) off e cur g3 (a.eval y) (h2.trans hl) hone (by omega)]
    simp
  simp only [Oper.wp, hrun, Oper.upon_skip]
  apply hn
  have h4 := hx0.setBox b cs (splice cs off (m.s.val y).cells) (cur.toList.take off ++ (a.eval y).cells.toList ++ cur.toList.drop (off + (a.eval y).cells.toList.length)).toArray hb
    (by rw [splice_length _ _ _ (by omega)]; simp; omega)
    (fun j c hj => by
      obtain ⟨u, q1, q2, q3⟩ := splice_rel (R := fun c u => u.oneCell' = true ∧ VR0 m c u) cs (m.s.val y).cells cur.toList (a.eval y).cells.toList off (by simpa using g4) (by simpa using h2) (by omega)
        (fun j c hj => by simpa using g5 j c hj) (fun j c hj => by simpa using h3 j c hj) j c hj
      exact ⟨u, by simpa using q1, q2, q3⟩)
  have h5 := (h4.mono (fun i => A i ∨ i = id) (fun i hi => Or.inl (by rw [← hm] at hi; exact hi))).dst o.dst .junk undef hd trivial
  have hw' : w.setRow (m.β b) (cur.toList.take off ++ (a.eval y).cells.toList ++ cur.toList.drop (off + (a.eval y).cells.toList.length)).toArray = (m.setBox b (splice cs off (m.s.val y).cells) (cur.toList.take off ++ (a.eval y).cells.toList ++ cur.toList.drop (off + (a.eval y).cells.toList.length)).toArray).w := by
    rw [← hw]; rfl
  rw [hw']
  cases hod : o.dst with
  | none => rw [hod] at h5; exact ⟨_, _, _, h5⟩
  | some d => rw [hod] at h5; exact ⟨_, _, _, h5⟩

/-! ### Addresses -/

theorem fieldOf_info {P : Program} {t : TypeId} {ti : TI} (ht : TIok P t ti) {f fo sz : Nat} (h : fieldOf ti f = some (fo, sz)) :
    ∃ (flds : Array Field) (fld : Field), P.underlying t = some (.struct flds) ∧ flds[f]? = some fld ∧ fld.offset = fo ∧ P.cellsOf fld.type = sz ∧ ∃ i, P.info? fld.type = some i ∧ i.size = sz := by
  unfold fieldOf at h
  have hk := ht.kind
  split at h
  · rename_i fs hfs
    rw [hfs] at hk
    obtain ⟨flds, h1, h2, h3⟩ := hk
    rw [← h2, List.getElem?_map] at h
    cases hq : flds.toList[f]? with
    | none => rw [hq] at h; cases h
    | some fld =>
      rw [hq] at h
      simp only [Option.map_some, Option.some.injEq, Prod.mk.injEq] at h
      have hmem : fld ∈ flds.toList := List.mem_of_getElem? hq
      have h4 := h3 fld hmem
      cases hi : P.info? fld.type with
      | none => rw [hi] at h4; cases h4
      | some i =>
        refine ⟨flds, fld, h1, by simpa using hq, h.1, h.2, i, hi, ?_⟩
        have := h.2
        simp only [Program.cellsOf, hi, Option.map_some, Option.getD_some] at this
        exact this
  · cases h

theorem run_fieldAt {P : Program} {t : TypeId} {ti : TI} (ht : TIok P t ti) {f fo sz : Nat} (h : fieldOf ti f = some (fo, sz)) (hp : 0 < sz) (w : World) (ad : Addr) :
    (Instr.fieldAt t (.pointer (some ad)) f).run P w = .ok (.pointer (some (ad.add fo))) w := by
  obtain ⟨flds, fld, h1, h2, h3, _, i, h5, h6⟩ := fieldOf_info ht h
  have h0 : ¬ i.size = 0 := by omega
  simp only [Instr.fieldAt, Sem.run_bind, run_underlying h1, Result.andThen_ok, h2, Instr.sureAddr, Sem.run_pure, fieldPlace, sizeOf, typeInfo, run_program, h5, h0, if_false, h3]

theorem add_none (b o n : Nat) : (⟨b, o, none⟩ : Addr).add n = ⟨b, o + n, none⟩ := Addr.add_lit b o n

theorem ok_fieldAddr {F : Fr} {A : Nat → Prop} {id : Nat} {o : Oper} {s : AS} (hd : ∀ k, o.dst = some k → k < F.N) (t : TypeId) (x : Operand) (f : Nat) (ho : o.op = .fieldAddr t x f) (ti : TI) (ht : TIok F.P t ti)
    (fo sz : Nat) (hf : fieldOf ti f = some (fo, sz)) (hp : 0 < sz) (v : AV)
    (hv : (∃ i j cs, s.val x = .ptr i j ∧ s (.box i) = .box cs ∧ v = .ptr i (j + fo)) ∨ (∃ cs, s.val x = .rp cs ∧ v = .rp (cs.drop fo)) ∨
      (∃ k i j e sz xs, s.val x = .elt k i j ∧ s (.tok k) = .tok e sz xs ∧ v = .elt k i (j + fo))) :
    OpOk F A id o s (dst o.dst v) :=
  opOk_pure hd fun a m h hs => by
    subst hs
    have h1 := h.val x
    have key : ∀ ad : Addr, a.eval x = .pointer (some ad) → (execOp a.eval o).run F.P m.w = .ok (.value (.pointer (some (ad.add fo)))) m.w := by
      intro ad had
      simp only [execOp, ho, had, Sem.run_bind, run_fieldAt ht hf hp, Result.andThen_ok]
      rfl
    rcases hv with ⟨i, j, cs, hx, hb, rfl⟩ | ⟨cs, hx, rfl⟩ | ⟨k, i, j, e, szz, xs, hx, hb, rfl⟩
    · rw [hx] at h1
      obtain ⟨g1, _, g2⟩ := (show VR0 m (.ptr i j) (a.eval x) from h1)
      have := g2 ⟨cs, hb⟩
      refine ⟨_, key _ this, ?_⟩
      rw [add_none]
      exact ⟨g1, rfl, fun _ => rfl⟩
    · rw [hx] at h1
      obtain ⟨ad, e1, e2, e3⟩ := (show VR0 m (.rp cs) (a.eval x) from h1)
      obtain ⟨b, off, sp⟩ := ad
      simp only at e2
      subst e2
      refine ⟨_, key _ e1, ?_⟩
      rw [add_none]
      refine ⟨_, rfl, rfl, fun j y hj => ?_⟩
      rw [List.getElem?_drop] at hj
      obtain ⟨q1, u, q2, q3⟩ := e3 _ y hj
      exact ⟨q1, u, by rw [show off + fo + j = off + (fo + j) by omega]; exact q2, q3⟩
    · rw [hx] at h1
      obtain ⟨g1, _, g2'⟩ := (show VR0 m (.elt k i j) (a.eval x) from h1)
      obtain ⟨hlt, g2⟩ := g2' e szz xs hb
      obtain ⟨_, _, _, t4, t5⟩ := h.mr.tok k e szz xs hb
      cases hτ : m.τ k with
      | none => have := t4 hτ; subst this; simp at hlt
      | some p =>
        obtain ⟨b, oo, cap⟩ := p
        have := g2 b oo cap hτ
        refine ⟨_, key _ this, ?_⟩
        rw [add_none]
        refine ⟨g1, rfl, fun e' sz' xs' hb' => ?_⟩
        rw [hb] at hb'; cases hb'
        refine ⟨hlt, fun b' o' cap' hτ' => ?_⟩
        rw [hτ] at hτ'; cases hτ'
        rw [show oo + (i * szz + j) + fo = oo + (i * szz + (j + fo)) by omega]

theorem ok_nilCheck {F : Fr} {A : Nat → Prop} {id : Nat} {o : Oper} {s : AS} (hd : ∀ k, o.dst = some k → k < F.N) (x : Operand) (ho : o.op = .nilCheck x)
    (hv : (∃ i j cs, s.val x = .ptr i j ∧ s (.box i) = .box cs) ∨ (∃ cs, s.val x = .rp cs) ∨ (∃ f, s.val x = .fn f)) :
    OpOk F A id o s (dst o.dst (s.val x)) :=
  opOk_pure hd fun a m h hs => by
    subst hs
    have h1 := h.val x
    refine ⟨a.eval x, ?_, h1⟩
    rcases hv with ⟨i, j, cs, hx, hb⟩ | ⟨cs, hx⟩ | ⟨f, hx⟩
    · rw [hx] at h1
      have := (show VR0 m (.ptr i j) (a.eval x) from h1).2.2 ⟨cs, hb⟩
      simp only [execOp, ho, this]; rfl
    · rw [hx] at h1
      obtain ⟨ad, e1, _⟩ := (show VR0 m (.rp cs) (a.eval x) from h1)
      simp only [execOp, ho, e1]; rfl
    · rw [hx] at h1
      have h1' : a.eval x = .func (.func f) #[] #[] := h1
      simp only [execOp, ho, h1']; rfl

end Go.Vc
