/- Vc, part 19: the operation that calls. -/
import Derived.Test.YtfnkbbeeilpiiaaVc18
namespace Go.Vc
open Go.RowKit

theorem flat_vr {m m' : Mem} {r : AV} {u : Value} (hf : flat r = true) (h : VR m r u) : VR m' r u := by
  have h0 : ∀ c v, flat0 c = true → VR0 m c v → VR0 m' c v := by
    intro c v hc hv
    cases c <;> first | exact hv | (simp [flat0] at hc)
  have h1 : ∀ c v, flat1 c = true → VR1 m c v → VR1 m' c v := by
    intro c v hc hv
    by_cases hagg : ∃ cs, c = .agg cs
    · obtain ⟨cs, rfl⟩ := hagg
      obtain ⟨vs, g1, g2, g3⟩ := hv
      exact ⟨vs, g1, g2, fun j d hj => let ⟨w, q1, q2, q3⟩ := g3 j d hj; ⟨w, q1, q2, h0 d w (List.all_eq_true.1 hc d (List.mem_of_getElem? hj)) q3⟩⟩
    · have hna : ∀ cs, c ≠ .agg cs := fun cs e => hagg ⟨cs, e⟩
      have e1 : flat1 c = flat0 c := by cases c <;> first | rfl | exact absurd rfl (hna _)
      rw [e1] at hc
      exact vr0_vr1 (h0 c v hc (vr1_vr0 hv hna))
  by_cases htup : ∃ cs, r = .tup cs
  · obtain ⟨cs, rfl⟩ := htup
    obtain ⟨vs, g1, g2, g3⟩ := h
    exact ⟨vs, g1, g2, fun j d hj => let ⟨w, q1, q3⟩ := g3 j d hj; ⟨w, q1, h1 d w (List.all_eq_true.1 hf d (List.mem_of_getElem? hj)) q3⟩⟩
  · have hna : ∀ cs, r ≠ .tup cs := fun cs e => htup ⟨cs, e⟩
    have e1 : flat r = flat1 r := by cases r <;> first | rfl | exact absurd rfl (hna _)
    rw [e1] at hf
    exact vr1_vr (h1 r u hf (vr_vr1 h hna))

theorem kills_apply (s : AS) (ks : List Nat) (e : Eff) : s.apply (e ++ kills ks) = (s.apply (kills ks)).apply e := by
  induction e with
  | nil => rfl
  | cons p e ih => obtain ⟨l, c⟩ := p; show (AS.apply s (e ++ kills ks)).put l c = _; rw [ih]; rfl

theorem apply_append (s : AS) (e e' : Eff) : s.apply (e ++ e') = (s.apply e').apply e := by
  induction e with
  | nil => rfl
  | cons p e ih => obtain ⟨l, c⟩ := p; show (AS.apply s (e ++ e')).put l c = _; rw [ih]; rfl

theorem callSem_spec {s : AS} {l as : List AV} {ids : List Nat} {bx : List (List AV)} {ka kb : List Nat} (h : callSem s l = .go as ids bx ka kb) :
    ∃ bs, viewArgs s 0 l = some (as, bs, ka, kb) ∧ nodup (bs.map (·.1)) = true ∧ ids = bs.map (·.1) ∧ bx = bs.map (·.2) := by
  unfold callSem at h
  split at h
  · rename_i as' bs ka' kb' hv
    split at h
    · rename_i hnd; cases h; exact ⟨bs, hv, hnd, rfl, rfl⟩
    · cases h
  · cases h

def callOk (ids : List Nat) (r : AV) (bx' : List (List AV)) : Bool := (flat r && ids.isEmpty) || boxesFit ids r bx'

theorem ok_call {F : Fr} {A : Nat → Prop} {id : Nat} {o : Oper} {s : AS} (hd : ∀ k, o.dst = some k → k < F.N) (fop : Operand) (args : Array Operand) (ts : Array TypeId) (ho : o.op = .call { callee := .value fop, args := args, argTypes := ts })
    (f : FuncId) (hf : s.val fop = .fn f) (as : List AV) (ids : List Nat) (bx : List (List AV)) (ka kb : List Nat) (hc : callSem s (args.toList.map s.val) = .go as ids bx ka kb)
    (r : AV) (bx' : List (List AV)) (hC : Contract F.P f as bx r bx') (hok : callOk ids r bx' = true) : OpOk F A id o s (callEff id o.dst ids ka kb r bx') := by
  rintro a w ⟨β, τ, ok, hx0⟩ hA next Q hn
  generalize hm : (⟨s, β, τ, A, ok, w⟩ : Mem) = m at hx0
  have hs : m.s = s := by rw [← hm]
  have hw : m.w = w := by rw [← hm]
  have hAA : m.A = A := by rw [← hm]
  subst hs hw hAA
  -- the arguments, as seen
  obtain ⟨bs, hv, hnd, rfl, rfl⟩ := callSem_spec hc
  obtain ⟨m1, h1, h2, h3, h4, h5, h6⟩ := hx0.kills (kb ++ ka)
  have hfv : a.eval fop = .func (.func f) #[] #[] := by have := hx0.val fop; rw [hf] at this; exact this
  have hβ : ∀ (j i : Nat), (bs.map (·.1))[j]? = some i → m.β ((bs.map (·.1)).getD j 0) = m.β i := fun j i hj => by
    rw [List.getD_eq_getElem?_getD, hj]; rfl
  obtain ⟨⟨v1, v2⟩, v3⟩ := viewArgs_vr h5 h6 (cMem (bs.map (·.2)) (fun j => m.β ((bs.map (·.1)).getD j 0)) m1.ok m1.w) rfl rfl (bs.map (·.1)) hβ
    (fun j i hj => by
      have : j < (bs.map (·.1)).length := (List.getElem?_eq_some_iff.1 hj).1
      show j < (bs.map (·.2)).length
      simpa using this)
    _ 0 as bs ka kb (args.toList.map a.eval) hv (fun t ht => by simp [ht]) (fun t ht => by simp [ht]) (fun j => by simp) (by simp)
    (fun i c hi => by
      rw [List.getElem?_map] at hi ⊢
      cases hq : args.toList[i]? with
      | none => rw [hq] at hi; cases hi
      | some x => rw [hq] at hi; cases hi; exact ⟨a.eval x, rfl, hx0.val x⟩)
  have hm0 := hx0.mr
  -- the boxes, as handed over
  have hmr : MR (cMem (bs.map (·.2)) (fun j => m.β ((bs.map (·.1)).getD j 0)) m1.ok m1.w) := by
    have hb : ∀ j cs, (cMem (bs.map (·.2)) (fun j => m.β ((bs.map (·.1)).getD j 0)) m1.ok m1.w).s (.box j) = .box cs → ∃ i, bs[j]? = some (i, cs) := by
      intro j cs hj
      have hj' : bxAS (bs.map (·.2)) (.box j) = .box cs := hj
      simp only [bxAS, List.getElem?_map] at hj'
      cases hq : bs[j]? with
      | none => rw [hq] at hj'; cases hj'
      | some p => rw [hq] at hj'; simp only [Option.map_some] at hj'; cases hj'; exact ⟨p.1, rfl⟩
    have hβj : ∀ j i cs, bs[j]? = some (i, cs) → m.β ((bs.map (·.1)).getD j 0) = m.β i := fun j i cs hj => hβ j i (by rw [List.getElem?_map, hj]; rfl)
    refine ⟨h1.mr.okLt, fun j cs hj => ?_, fun t e sz xs ht => ?_, fun i j ci cj hi hj hne => ?_, fun i j ei ej si sj xi xj p q hi => ?_, fun i j ci ej sj xj q hi hj => ?_⟩
    · obtain ⟨i, hi⟩ := hb j cs hj
      obtain ⟨cs0, k, p1, p2, p3⟩ := v3 j i cs hi
      obtain ⟨g1, g2, cur, e, g3, g4, g5⟩ := hm0.box i cs0 p1
      have hbj := hβj j i cs hi
      obtain ⟨q1, q2⟩ := persistAll_pr h5 h6 cs0 cs k cur.toList p2 p3 (by simpa using g4) (fun j c hj => let ⟨u, e1, _, e3⟩ := g5 j c hj; ⟨u, by simpa using e1, e3⟩)
      have hbox1 : m1.s (.box i) = .box cs0 := by rw [h2, kills_box]; exact p1
      have hβ1 : m1.β i = m.β i := (h5.box i cs0 hbox1 g1).2
      refine ⟨?_, ?_, cur, e, ?_, by rw [q1]; exact g4, fun k c hk => ?_⟩
      · have := (List.getElem?_eq_some_iff.1 hi).1
        show j < (bs.map (·.2)).length
        simpa using this
      · show ¬ m1.ok (m.β ((bs.map (·.1)).getD j 0))
        rw [hbj, ← hβ1]
        exact (h1.mr.box i cs0 hbox1).2.1
      · show m1.w.heap[m.β ((bs.map (·.1)).getD j 0)]? = _
        rw [hbj, h3]; exact g3
      · obtain ⟨u, e1, e2⟩ := q2 k c hk
        exact ⟨u, by simpa using e1, e2.oneCell, PR.vr0 (m := cMem (bs.map (·.2)) (fun j => m.β ((bs.map (·.1)).getD j 0)) m1.ok m1.w) e2⟩
    · have ht' : Cont.none = Cont.tok e sz xs := ht; cases ht'
    · obtain ⟨i', hi'⟩ := hb i ci hi
      obtain ⟨j', hj'⟩ := hb j cj hj
      obtain ⟨c1, _, p1, _⟩ := v3 i i' ci hi'
      obtain ⟨c2, _, p2, _⟩ := v3 j j' cj hj'
      show m.β ((bs.map (·.1)).getD i 0) ≠ m.β ((bs.map (·.1)).getD j 0)
      rw [hβj i i' ci hi', hβj j j' cj hj']
      refine hm0.sepB i' j' c1 c2 p1 p2 (fun e => hne ?_)
      subst e
      exact nodup_get hnd (x := i') (by rw [List.getElem?_map, hi']; rfl) (by rw [List.getElem?_map, hj']; rfl)
    · have hi' : Cont.none = Cont.tok ei si xi := hi; cases hi'
    · have hj' : Cont.none = Cont.tok ej sj xj := hj; cases hj'
  have hcalls := hC.body m1.w _ m1.ok (args.map a.eval) hmr (by rw [v1]; simp) (fun i c hi => by
    obtain ⟨u, e1, e2⟩ := v2 i c hi
    exact ⟨u, by rw [← e1]; simp, e2⟩)
  have hrun : (execOp a.eval o).run F.P m.w = .ok (.enter f (args.map a.eval)) m.w := by
    simp only [execOp, ho, resolve, hfv, Deferred.ofValue, Sem.run_bind, Sem.run_pure, Result.andThen_ok, invoke]
    rw [← hC.call]
    congr 2
    simp
  simp only [Oper.wp, hrun, Oper.upon_enter]
  rw [h3] at hcalls
  refine hcalls.mono ?_
  rintro e w' ⟨u, β', ok', rfl, p1, p2, p3, p4, p5, p6, p7⟩
  simp only
  apply hn
  unfold callEff
  cases hfl : flat r && (bs.map (·.1)).isEmpty with
  | true =>
    simp only [Bool.and_eq_true] at hfl
    have hbe : bs = [] := by
      have := List.isEmpty_iff.1 hfl.2
      simpa using this
    subst hbe
    have hg := hx0.grow w' p3.size (fun k hk => p3.block k hk (fun j hj => absurd (show j < 0 from hj) (by omega))) p3.fz p3.os p3.tape p3.output
    have h7 := (hg.mono (fun i => m.A i ∨ i = id) (fun i hi => Or.inl hi)).dst o.dst r u hd (flat_vr hfl.1 p2)
    exact ⟨_, _, _, h7⟩
  | false =>
    have hfit : boxesFit (bs.map (·.1)) r bx' = true := by
      simp only [callOk, hfl, Bool.false_or] at hok
      exact hok
    have hlive : ∀ i ∈ bs.map (·.1), ∃ c, m1.s (.box i) = .box c := by
      intro i hi
      obtain ⟨j, hj⟩ := List.mem_iff_getElem?.1 hi
      rw [List.getElem?_map] at hj
      cases hq : bs[j]? with
      | none => rw [hq] at hj; cases hj
      | some p =>
        rw [hq] at hj
        cases hj
        obtain ⟨c, _, g1, _⟩ := v3 j p.1 p.2 hq
        exact ⟨c, by rw [h2, kills_box]; exact g1⟩
    have hβ1 : ∀ (j i : Nat), (bs.map (·.1))[j]? = some i → m.β ((bs.map (·.1)).getD j 0) = m1.β i := fun j i hj => by
      obtain ⟨c, hc⟩ := hlive i (List.mem_of_getElem? hj)
      have hc' : m.s (.box i) = .box c := by rw [h2, kills_box] at hc; exact hc
      rw [hβ j i hj, (h5.box i c hc (hm0.box i c hc').1).2]
    rw [← h3] at p3 p5 p7
    obtain ⟨m3, k1, k2, k3, k4, k5⟩ := call_boxes h1 id (by rw [h4]; exact hA) (bs.map (·.1)) hnd hlive (bs.map (·.2)) bx' (by simp) r hfit _ hβ1 u β' ok' w' p1 p2 p3 p4 p5 p6 p7
    have h7 := k1.dst o.dst _ u hd k5
    refine ⟨m3.β, m3.τ, m3.ok, ?_⟩
    have hst : (⟨m.s.apply (dst o.dst (back (bs.map (·.1)) id r) ++ (layBoxes id (bs.map (·.1)) bx' ++ kills (kb ++ ka))), m3.β, m3.τ, fun i => m.A i ∨ i = id, m3.ok, w'⟩ : Mem) =
        { m3 with s := m3.s.apply (dst o.dst (back (bs.map (·.1)) id r)) } := by
      rw [apply_append, kills_apply, ← h2, ← k2, ← k3, ← h4, ← k4]
    rw [hst]
    exact h7

end Go.Vc
