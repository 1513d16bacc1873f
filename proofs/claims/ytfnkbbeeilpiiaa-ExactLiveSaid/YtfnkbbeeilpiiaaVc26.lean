/- Vc, part 26: a function's contract out of its code's verification condition. -/
import Derived.Test.YtfnkbbeeilpiiaaVc25
namespace Go.Vc
open Go.RowKit

def resOne (T : Tab) (s : AS) : ResultVar → Option AV
  | .tmp t => some (s.tmp t)
  | .cell a t => match Tab.find T t with
    | some ti => match s.tmp a with
      | .ptr b off => match s (.box b) with
        | .box cs => match Nat.ble (off + ti.size) cs.length && Nat.blt 0 ti.size with
          | true => some (ofCells ti ((cs.drop off).take ti.size))
          | false => none
        | _ => none
      | _ => none
    | none => none

def resList (T : Tab) (s : AS) : List ResultVar → Option (List AV)
  | [] => some []
  | r :: rs => match resOne T s r with
    | some v => match resList T s rs with
      | some vs => some (v :: vs)
      | none => none
    | none => none

def resRun (tmps : Array Value) : ResultVar → Sem Value
  | .tmp t => pure (tmps.getD t undef)
  | .cell a t => do loadVar t (← asAddr (tmps.getD a undef))

theorem resOne_run {F : Fr} {a : Act} {m : Mem} (hx : StX F a m) {T : Tab} (hT : TabOk F.P T) {rv : ResultVar} {v : AV} (h : resOne T m.s rv = some v) :
    ∃ u, (resRun a.tmps rv).run F.P m.w = .ok u m.w ∧ VR m v u := by
  cases rv with
  | tmp t =>
    cases h
    exact ⟨_, rfl, hx.val (.tmp t)⟩
  | cell a' t =>
    simp only [resOne] at h
    split at h
    · rename_i ti hti
      have ht := hT t ti hti
      split at h
      · rename_i b off hp
        split at h
        · rename_i cs hb
          split at h
          · rename_i hc
            cases h
            simp only [Bool.and_eq_true] at hc
            have hf := Nat.le_of_ble_eq_true hc.1
            have hpos := blt_lt hc.2
            have h1 : VR m (.ptr b off) (a.tmps.getD a' undef) := by have := hx.val (.tmp a'); rw [show m.s.val (.tmp a') = .ptr b off from hp] at this; exact this
            have h1' := (show VR0 m (.ptr b off) (a.tmps.getD a' undef) from h1).2.2 ⟨cs, hb⟩
            obtain ⟨_, _, cur, e, g3, g4, g5⟩ := hx.mr.box b cs hb
            have hlen : ((cs.drop off).take ti.size).length = ti.size := by simp; omega
            have hlen2 : ((cur.toList.drop off).take ti.size).length = ti.size := by simp; omega
            refine ⟨_, ?_, ofCells_vr _ hlen hpos ((cur.toList.drop off).take ti.size) (hlen2.trans hlen.symm) (fun j c hj => ?_)⟩
            · simp only [resRun, h1', asAddr, Sem.run_bind, Sem.run_pure, Result.andThen_ok]
              rw [run_loadVar_cells ht m.w _ hpos ((cur.toList.drop off).take ti.size) hlen2 (fun j u hj => by
                rw [Addr.add_lit, cell_of_row m.w _ _ cur e _ g3]
                rw [List.getElem?_take] at hj
                split at hj
                · rw [List.getElem?_drop] at hj; simpa using hj
                · cases hj)]
            · rw [List.getElem?_take] at hj ⊢
              split at hj
              · rename_i hlt
                rw [List.getElem?_drop] at hj
                rw [if_pos hlt, List.getElem?_drop]
                obtain ⟨u, e1, e2⟩ := g5 _ c hj
                exact ⟨u, by simpa using e1, e2⟩
              · cases hj
          · cases h
        · cases h
      · cases h
    · cases h

theorem resList_run {F : Fr} {a : Act} {m : Mem} (hx : StX F a m) {T : Tab} (hT : TabOk F.P T) : ∀ {rs : List ResultVar} {vs : List AV}, resList T m.s rs = some vs →
    ∃ us : List Value, (rs.mapM (resRun a.tmps)).run F.P m.w = .ok us m.w ∧ us.length = vs.length ∧ ∀ (i : Nat) (c : AV), vs[i]? = some c → ∃ u, us[i]? = some u ∧ VR m c u
  | [], vs, h => by cases h; exact ⟨[], rfl, rfl, by simp⟩
  | r :: rs, vs, h => by
    simp only [resList] at h
    split at h
    · rename_i v hv
      split at h
      · rename_i vs' hvs
        cases h
        obtain ⟨u, h1, h2⟩ := resOne_run hx hT hv
        obtain ⟨us, g1, g2, g3⟩ := resList_run hx hT hvs
        refine ⟨u :: us, ?_, by simp [g2], fun i c hi => ?_⟩
        · rw [List.mapM_cons, Sem.run_bind, h1, Result.andThen_ok, Sem.run_bind, g1, Result.andThen_ok]
          rfl
        · cases i with
          | zero => cases hi; exact ⟨u, rfl, h2⟩
          | succ i => simpa using g3 i c (by simpa using hi)
      · cases h
    · cases h

theorem run_results {P : Program} {fn : Func} {tmps : Array Value} {w : World} {us : List Value} (h : (fn.results.toList.mapM (resRun tmps)).run P w = .ok us w) :
    (results fn tmps).run P w = .ok (if h : us.toArray.size = 1 then us.toArray[0] else .tuple us.toArray) w := by
  have e : results fn tmps = (do
      let vs ← fn.results.mapM (resRun tmps)
      pure (if h : vs.size = 1 then vs[0] else .tuple vs)) := by
    unfold results
    congr 2
  rw [e, Sem.run_bind]
  have h2 : (fn.results.mapM (resRun tmps)).run P w = .ok us.toArray w := by
    rw [Array.mapM_eq_mapM_toList, Sem.run_map, h]
    rfl
  rw [h2]
  rfl

/-- Boxes, as handed over: what stands in them is frozen. -/
theorem handed_mr {F : Fr} {a : Act} {m m1 : Mem} (hm0 : MR m) (h1 : StX F a m1) {ks : List Nat} (h2 : m1.s = m.s.apply (kills ks)) (h3 : m1.w = m.w) (h5 : Ext m m1)
    (h6 : ∀ t ∈ ks, ∀ e sz xs v, m.s (.tok t) = .tok e sz xs → VR0 m (.own t) v → PR m1.w m1.ok (.lst sz false xs) v) {bs : List (Nat × List AV)} (hnd : nodup (bs.map (·.1)) = true)
    (v3 : ∀ (j id : Nat) (ds : List AV), bs[j]? = some (id, ds) → ∃ cs k, m.s (.box id) = .box cs ∧ persistAll m.s cs = some (ds, k) ∧ ∀ t ∈ k, t ∈ ks) :
    MR (cMem (bs.map (·.2)) (fun j => m.β ((bs.map (·.1)).getD j 0)) m1.ok m1.w) := by
  have hβ : ∀ (j i : Nat), (bs.map (·.1))[j]? = some i → m.β ((bs.map (·.1)).getD j 0) = m.β i := fun j i hj => by
    rw [List.getD_eq_getElem?_getD, hj]; rfl
  have hb : ∀ j cs, (cMem (bs.map (·.2)) (fun j => m.β ((bs.map (·.1)).getD j 0)) m1.ok m1.w).s (.box j) = .box cs → ∃ i, bs[j]? = some (i, cs) := by
    intro j cs hj
    have hj' : bxAS (bs.map (·.2)) (.box j) = .box cs := hj
    simp only [bxAS, List.getElem?_map] at hj'
    cases hq : bs[j]? with
    | none => rw [hq] at hj'; cases hj'
    | some p => rw [hq] at hj'; simp only [Option.map_some] at hj'; cases hj'; exact ⟨p.1, rfl⟩
  have hβj : ∀ j i cs, bs[j]? = some (i, cs) → m.β ((bs.map (·.1)).getD j 0) = m.β i := fun j i cs hj => hβ j i (by rw [List.getElem?_map, hj]; rfl)
  refine ⟨h1.mr.okLt, fun j cs hj => ?_, fun t e sz xs ht => ?_, fun i j ci cj hi hj hne => ?_, fun i j ei ej si sj xi xj p q hi => ?_, fun i j ci ej sj xj q hi hj => ?_⟩
  · obtain ⟨i, hi⟩ := hb j cs hj
    obtain ⟨cs0, k, p1, p2, p3⟩ := v3 j i cs hi
    obtain ⟨g1, g2, cur, e, g3, g4, g5⟩ := hm0.box i cs0 p1
    have hbj := hβj j i cs hi
    obtain ⟨q1, q2⟩ := persistAll_pr h5 h6 cs0 cs k cur.toList p2 p3 (by simpa using g4) (fun j c hj => let ⟨u, e1, _, e3⟩ := g5 j c hj; ⟨u, by simpa using e1, e3⟩)
    have hbox1 : m1.s (.box i) = .box cs0 := by rw [h2, kills_box]; exact p1
    have hβ1 : m1.β i = m.β i := (h5.box i cs0 hbox1 g1).2
    refine ⟨?_, ?_, cur, e, ?_, by rw [q1]; exact g4, fun k c hk => ?_⟩
    · have := (List.getElem?_eq_some_iff.1 hi).1
      show j < (bs.map (·.2)).length
      simpa using this
    · show ¬ m1.ok (m.β ((bs.map (·.1)).getD j 0))
      rw [hbj, ← hβ1]
      exact (h1.mr.box i cs0 hbox1).2.1
    · show m1.w.heap[m.β ((bs.map (·.1)).getD j 0)]? = _
      rw [hbj, h3]; exact g3
    · obtain ⟨u, e1, e2⟩ := q2 k c hk
      exact ⟨u, by simpa using e1, e2.oneCell, PR.vr0 (m := cMem (bs.map (·.2)) (fun j => m.β ((bs.map (·.1)).getD j 0)) m1.ok m1.w) e2⟩
  · have ht' : Cont.none = Cont.tok e sz xs := ht; cases ht'
  · obtain ⟨i', hi'⟩ := hb i ci hi
    obtain ⟨j', hj'⟩ := hb j cj hj
    obtain ⟨c1, _, p1, _⟩ := v3 i i' ci hi'
    obtain ⟨c2, _, p2, _⟩ := v3 j j' cj hj'
    show m.β ((bs.map (·.1)).getD i 0) ≠ m.β ((bs.map (·.1)).getD j 0)
    rw [hβj i i' ci hi', hβj j j' cj hj']
    refine hm0.sepB i' j' c1 c2 p1 p2 (fun e => hne ?_)
    subst e
    exact nodup_get hnd (x := i') (by rw [List.getElem?_map, hi']; rfl) (by rw [List.getElem?_map, hj']; rfl)
  · have hi' : Cont.none = Cont.tok ei si xi := hi; cases hi'
  · have hj' : Cont.none = Cont.tok ej sj xj := hj; cases hj'

end Go.Vc
