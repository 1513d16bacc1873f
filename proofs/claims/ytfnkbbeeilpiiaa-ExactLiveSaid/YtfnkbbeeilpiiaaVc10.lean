/- Vc, part 10: struct values and slices built of parts. -/
import Derived.Test.YtfnkbbeeilpiiaaVc9
namespace Go.Vc
open Go.RowKit

theorem fold_set (off : Nat) : ∀ (l : List Value) (j : Nat) (cells : Array Value), off + j + l.length ≤ cells.size →
    ((l.zipIdx j).foldl (fun (cs : Array Value) (p : Value × Nat) => cs.setIfInBounds (off + p.2) p.1) cells) = (cells.toList.take (off + j) ++ l ++ cells.toList.drop (off + j + l.length)).toArray
  | [], j, cells, _ => by simp
  | v :: l, j, cells, h => by
    simp only [List.length_cons] at h
    rw [List.zipIdx_cons, List.foldl_cons, fold_set off l (j + 1) _ (by simp; omega)]
    congr 1
    have := list_seg_step cells.toList (off + j) v l (by simp; omega)
    simpa [Array.toList_setIfInBounds, Nat.add_assoc] using this

theorem fill_step (place : Nat → Option (Nat × Nat)) (cells : Array Value) (i off : Nat) (v : Value) (rest : List (Nat × Value)) (hp : place i = some (off, v.cells.size)) (hf : off + v.cells.size ≤ cells.size) :
    Instr.fill place cells ((i, v) :: rest) = Instr.fill place (cells.toList.take off ++ v.cells.toList ++ cells.toList.drop (off + v.cells.toList.length)).toArray rest := by
  have h1 : ¬ (v.cells.size ≠ v.cells.size ∨ off + v.cells.size > cells.size) := by omega
  have h2 := fold_set off v.cells.toList 0 cells (by simpa using hf)
  simp only [Nat.add_zero] at h2
  rw [← h2]
  simp only [Instr.fill, hp]
  have h3 : (decide (v.cells.size ≠ v.cells.size) || decide (off + v.cells.size > cells.size)) = false := by simp; omega
  simp only [h3, Bool.false_eq_true, if_false]
  rw [← Array.foldl_toList, Array.toList_zipIdx]

/-- The parts of a struct, both ways. -/
theorem fill_struct {F : Fr} {a : Act} {m : Mem} (hx : StX F a m) {ti : TI} {place : Nat → Option (Nat × Nat)} (hp : ∀ i off size, fieldOf ti i = some (off, size) → place i = some (off, size)) :
    ∀ (parts : List (Nat × Operand)) (cs : List AV) (cells : Array Value) (cs' : List AV), cells.size = cs.length →
      (∀ (j : Nat) (c : AV), cs[j]? = some c → ∃ u, cells[j]? = some u ∧ u.oneCell' = true ∧ VR0 m c u) → fillStruct ti cs m.s parts = some cs' →
      ∃ cells', Instr.fill place cells (parts.map fun p => (p.1, a.eval p.2)) = some cells' ∧ cells'.size = cs'.length ∧
        ∀ (j : Nat) (c : AV), cs'[j]? = some c → ∃ u, cells'[j]? = some u ∧ u.oneCell' = true ∧ VR0 m c u
  | [], cs, cells, cs', hl, hc, h => by
    simp only [fillStruct, Option.some.injEq] at h
    subst h
    exact ⟨cells, rfl, hl, hc⟩
  | (i, x) :: r, cs, cells, cs', hl, hc, h => by
    simp only [fillStruct] at h
    split at h
    · rename_i off size hf
      split at h
      · rename_i hchk
        simp only [Bool.and_eq_true] at hchk
        obtain ⟨h1', h2, h3⟩ := hchk
        have h1 := Nat.eq_of_beq_eq_true h1'
        have h3' : off + size ≤ cs.length := Nat.le_of_ble_eq_true h3
        obtain ⟨g1, g2⟩ := solid_vr (hx.val x) h2
        have hpl := hp i off size hf
        have hsz : (a.eval x).cells.size = size := g1.trans h1
        rw [← hsz] at hpl
        obtain ⟨cells', k1, k2, k3⟩ := fill_struct hx hp r _ (cells.toList.take off ++ (a.eval x).cells.toList ++ cells.toList.drop (off + (a.eval x).cells.toList.length)).toArray cs'
          (by rw [splice_length _ _ _ (by omega)]; simp; omega)
          (fun j c hj => by
            obtain ⟨u, q1, q2, q3⟩ := splice_rel (R := fun c u => u.oneCell' = true ∧ VR0 m c u) cs (m.s.val x).cells cells.toList (a.eval x).cells.toList off (by simpa using hl) (by simpa using g1) (by omega)
              (fun j c hj => by simpa using hc j c hj) (fun j c hj => by simpa using g2 j c hj) j c hj
            exact ⟨u, by simpa using q1, q2, q3⟩) h
        refine ⟨cells', ?_, k2, k3⟩
        rw [List.map_cons, fill_step place cells i off (a.eval x) _ hpl (by omega)]
        exact k1
      · cases h
    · cases h

theorem mapM_places {P : Program} : ∀ (fs : List Field), (∀ f ∈ fs, (P.info? f.type).isSome = true) →
    fs.mapM (fun f => (P.info? f.type).map fun i => (f.offset, i.size)) = some (fs.map fun f => (f.offset, P.cellsOf f.type))
  | [], _ => rfl
  | f :: fs, h => by
    have h1 := h f (by simp)
    cases hi : P.info? f.type with
    | none => rw [hi] at h1; cases h1
    | some i =>
      rw [List.mapM_cons, hi, mapM_places fs (fun g hg => h g (by simp [hg]))]
      simp [Program.cellsOf, hi]

theorem ok_build {F : Fr} {A : Nat → Prop} {id : Nat} {o : Oper} {s : AS} (hd : ∀ k, o.dst = some k → k < F.N) (t : TypeId) (parts : Array (Nat × Operand)) (ho : o.op = .build t parts) (ti : TI) (ht : TIok F.P t ti)
    (fs : List (Nat × Nat)) (hk : ti.kind = .struct fs) (cs : List AV) (hf : fillStruct ti ti.zero s parts.toList = some cs) : OpOk F A id o s (dst o.dst (.agg cs)) :=
  opOk_pure hd fun a m hx hs => by
    subst hs
    obtain ⟨i, i1, i2, _, z, i4, z1, z2, z3⟩ := ht.info
    have hkk := ht.kind
    rw [hk] at hkk
    obtain ⟨flds, u1, u2, u3⟩ := hkk
    obtain ⟨cells', k1, k2, k3⟩ := fill_struct hx (ti := ti) (place := ((flds.toList.map fun f => (f.offset, F.P.cellsOf f.type)).toArray[·]?)) (fun j off size hj => by
        simp only [fieldOf, hk] at hj
        rw [u2]
        simpa using hj) parts.toList ti.zero z.cells cs (by rw [z1, z2])
      (fun j c hj => let ⟨u, g1, g2, g3⟩ := z3 j c hj; ⟨u, g1, g2, g3.vr⟩) hf
    refine ⟨.agg cells', ?_, cells', rfl, k2, k3⟩
    have hb : F.P.built t (parts.map fun (i, x) => (i, a.eval x)).toList = some cells' := by
      simp only [Program.built, i1, u1, i4, mapM_places _ u3]
      rw [← k1]
      simp
    simp only [execOp, ho, Sem.run_bind, run_build m.w t _ cells' hb, Result.andThen_ok]
    rfl

/-! ### Rows of elements -/

/-- A flat row of cells reads as these elements, of sz cells each. -/
structure FR (R : AV → Value → Prop) (sz : Nat) (xs : List (List AV)) (cells : List Value) : Prop where
  len : cells.length = xs.length * sz
  esz : ∀ c ∈ xs, c.length = sz
  at_ : ∀ (i j : Nat) (c : List AV) (x : AV), xs[i]? = some c → c[j]? = some x → ∃ u, cells[i * sz + j]? = some u ∧ R x u

theorem FR.nil (R : AV → Value → Prop) (sz : Nat) : FR R sz [] [] := ⟨by simp, by simp, by simp⟩

theorem FR.append {R : AV → Value → Prop} {sz : Nat} {xs ys : List (List AV)} {cs ds : List Value} (h : FR R sz xs cs) (k : FR R sz ys ds) : FR R sz (xs ++ ys) (cs ++ ds) where
  len := by rw [List.length_append, h.len, k.len, List.length_append, Nat.add_mul]
  esz := fun c hc => by
    rcases List.mem_append.1 hc with hc | hc
    · exact h.esz c hc
    · exact k.esz c hc
  at_ := fun i j c x hi hj => by
    have hjlt : j < c.length := (List.getElem?_eq_some_iff.1 hj).1
    by_cases hlt : i < xs.length
    · rw [List.getElem?_append_left hlt] at hi
      obtain ⟨u, g1, g2⟩ := h.at_ i j c x hi hj
      exact ⟨u, by rw [List.getElem?_append_left (List.getElem?_eq_some_iff.1 g1).1]; exact g1, g2⟩
    · rw [List.getElem?_append_right (by omega)] at hi
      obtain ⟨u, g1, g2⟩ := k.at_ _ j c x hi hj
      refine ⟨u, ?_, g2⟩
      have hge : cs.length ≤ i * sz + j := by rw [h.len]; have := Nat.mul_le_mul_right sz (Nat.le_of_not_lt hlt); omega
      rw [List.getElem?_append_right hge, h.len]
      have : i * sz + j - xs.length * sz = (i - xs.length) * sz + j := by
        rw [Nat.sub_mul]
        have := Nat.mul_le_mul_right sz (Nat.le_of_not_lt hlt)
        omega
      rw [this]
      exact g1

theorem FR.take {R : AV → Value → Prop} {sz : Nat} {xs : List (List AV)} {cs : List Value} (h : FR R sz xs cs) (n : Nat) (hn : n ≤ xs.length) : FR R sz (xs.take n) (cs.take (n * sz)) where
  len := by
    rw [List.length_take, h.len, List.length_take, Nat.min_eq_left hn, Nat.min_eq_left (Nat.mul_le_mul_right sz hn)]
  esz := fun c hc => h.esz c (List.mem_of_mem_take hc)
  at_ := fun i j c x hi hj => by
    rw [List.getElem?_take] at hi
    split at hi
    · rename_i hlt
      obtain ⟨u, g1, g2⟩ := h.at_ i j c x hi hj
      have hjlt : j < c.length := (List.getElem?_eq_some_iff.1 hj).1
      rw [h.esz c (List.mem_of_getElem? hi)] at hjlt
      have hb : i * sz + j < n * sz := by
        have : (i + 1) * sz ≤ n * sz := Nat.mul_le_mul_right sz hlt
        rw [Nat.add_mul] at this
        omega
      exact ⟨u, by rw [List.getElem?_take, if_pos hb]; exact g1, g2⟩
    · cases hi

theorem FR.drop {R : AV → Value → Prop} {sz : Nat} {xs : List (List AV)} {cs : List Value} (h : FR R sz xs cs) (n : Nat) : FR R sz (xs.drop n) (cs.drop (n * sz)) where
  len := by rw [List.length_drop, h.len, List.length_drop, Nat.sub_mul]
  esz := fun c hc => h.esz c (List.mem_of_mem_drop hc)
  at_ := fun i j c x hi hj => by
    rw [List.getElem?_drop] at hi
    obtain ⟨u, g1, g2⟩ := h.at_ _ j c x hi hj
    refine ⟨u, ?_, g2⟩
    rw [List.getElem?_drop, ← Nat.add_assoc, ← Nat.add_mul]
    exact g1

/-- One element is laid anew. -/
theorem FR.set {R : AV → Value → Prop} {sz : Nat} {xs : List (List AV)} {cs : List Value} (h : FR R sz xs cs) (i : Nat) (hi : i < xs.length) (c : List AV) (us : List Value) (hc : c.length = sz) (hu : us.length = sz)
    (hr : ∀ (j : Nat) (x : AV), c[j]? = some x → ∃ u, us[j]? = some u ∧ R x u) : FR R sz (xs.set i c) (cs.take (i * sz) ++ us ++ cs.drop (i * sz + us.length)) where
  len := by
    have h1 : (i + 1) * sz ≤ xs.length * sz := Nat.mul_le_mul_right sz hi
    rw [Nat.add_mul] at h1
    have := h.len
    simp only [List.length_append, List.length_take, List.length_drop, List.length_set]
    omega
  esz := fun d hd => by
    rcases List.mem_or_eq_of_mem_set hd with hd | rfl
    · exact h.esz d hd
    · exact hc
  at_ := fun k j d x hk hj => by
    have hlen := h.len
    have h1 : (i + 1) * sz ≤ xs.length * sz := Nat.mul_le_mul_right sz hi
    rw [Nat.add_mul] at h1
    have htl : (cs.take (i * sz)).length = i * sz := by simp; omega
    have hjlt : j < d.length := (List.getElem?_eq_some_iff.1 hj).1
    rw [List.append_assoc]
    by_cases hki : k = i
    · subst hki
      rw [List.getElem?_set_self hi] at hk
      cases hk
      obtain ⟨u, g1, g2⟩ := hr j x hj
      refine ⟨u, ?_, g2⟩
      rw [List.getElem?_append_right (by omega), htl, List.getElem?_append_left (by omega)]
      rw [show k * sz + j - k * sz = j by omega]
      exact g1
    · rw [List.getElem?_set_ne (by omega)] at hk
      have hdl := h.esz d (List.mem_of_getElem? hk)
      obtain ⟨u, g1, g2⟩ := h.at_ k j d x hk hj
      refine ⟨u, ?_, g2⟩
      rcases Nat.lt_or_gt_of_ne hki with hlt | hgt
      · have h2 : (k + 1) * sz ≤ i * sz := Nat.mul_le_mul_right sz hlt
        rw [Nat.add_mul] at h2
        rw [List.getElem?_append_left (by omega), List.getElem?_take, if_pos (by omega)]
        exact g1
      · have h2 : (i + 1) * sz ≤ k * sz := Nat.mul_le_mul_right sz hgt
        rw [Nat.add_mul] at h2
        rw [List.getElem?_append_right (by omega), htl, List.getElem?_append_right (by omega), List.getElem?_drop]
        rw [show i * sz + us.length + (k * sz + j - i * sz - us.length) = k * sz + j by omega]
        exact g1

end Go.Vc
