/- Vc, part 4: how memory changes: a new box, a new row, a store, a slice that is let go. -/
import Derived.Test.YtfnkbbeeilpiiaaVc3
namespace Go.Vc
open Go.RowKit

def upd {α : Type} (f : Nat → α) (i : Nat) (x : α) : Nat → α := fun j => if j = i then x else f j
theorem upd_same {α : Type} (f : Nat → α) (i : Nat) (x : α) : upd f i x i = x := by simp [upd]
theorem upd_ne {α : Type} (f : Nat → α) {i j : Nat} (x : α) (h : j ≠ i) : upd f i x j = f j := by simp [upd, h]

theorem frozen_setRow (w : World) (g : Nat) (cs : Array Value) (a : Addr) : (w.setRow g cs).frozen? a = w.frozen? a := by
  simp only [World.frozen?, World.setRow, Array.getElem?_modify]
  by_cases h : g = a.block
  · subst h
    cases hb : w.heap[a.block]? with
    | none => simp
    | some o => cases o <;> simp
  · simp [h]

theorem Keep.alloc {F : Fr} {w : World} (h : Keep F w) (c : Array Value) (t : TypeId) : Keep F (w.alloc (.cells c t)) where
  fz := fun a => (frozen?_alloc_cells w c t a).trans (h.fz a)
  os := h.os
  tape := h.tape
  output := h.output
  size := by have := h.size; simp; omega
  block := fun k hk hj => by
    have := h.size
    rw [Below.heap_alloc w _ k (by omega)]
    exact h.block k hk hj

theorem Keep.drew {F : Fr} {w : World} (h : Keep F w) : Keep F w.drew := ⟨h.os, h.tape, h.output, h.size, h.block, h.fz⟩

theorem Keep.setRow {F : Fr} {w : World} (h : Keep F w) (g : Nat) (cs : Array Value) (hg : F.w0.heap.size ≤ g ∨ ∃ j, j < F.m ∧ g = F.β0 j) : Keep F (w.setRow g cs) where
  fz := fun a => (frozen_setRow w g cs a).trans (h.fz a)
  os := h.os
  tape := h.tape
  output := h.output
  size := by have := h.size; simp; omega
  block := fun k hk hj => by
    have hne : k ≠ g := by
      rintro rfl
      rcases hg with hg | ⟨j, h1, h2⟩
      · omega
      · exact hj j h1 h2
    rw [setRow_other w g k cs hne]
    exact h.block k hk hj

/-- A new box. -/
def Mem.newBox (m : Mem) (id : Nat) (cs : List AV) (cur : Array Value) (e : TypeId) : Mem :=
  { s := m.s.put (.box id) (.box cs), β := upd m.β id m.w.heap.size, τ := m.τ, A := fun i => m.A i ∨ i = id, ok := m.ok, w := m.w.alloc (.cells cur e) }

theorem ext_newBox {m : Mem} (hm : MR m) (id : Nat) (cs : List AV) (cur : Array Value) (e : TypeId) (hA : ¬ m.A id) : Ext m (m.newBox id cs cur e) where
  tok := fun _ _ _ xs' h _ => ⟨xs', h, rfl, rfl⟩
  box := fun i cs' h hi => by
    have hne : i ≠ id := by rintro rfl; exact hA hi
    have h' : (m.s.put (.box id) (.box cs)) (.box i) = .box cs' := h
    rw [put_box_ne _ _ _ _ hne] at h'
    exact ⟨⟨cs', h'⟩, upd_ne _ _ hne⟩
  A := fun _ h => .inl h
  ok := fun _ h => h
  cell := fun b off hb => World.cell?_alloc_lt _ _ _ (hm.okLt b hb)

theorem mr_newBox {m : Mem} (hm : MR m) (id : Nat) (cs : List AV) (cur : Array Value) (e : TypeId) (hA : ¬ m.A id) (hsz : cur.size = cs.length)
    (hc : ∀ (j : Nat) (c : AV), cs[j]? = some c → ∃ u, cur[j]? = some u ∧ u.oneCell' = true ∧ VR0 m c u) : MR (m.newBox id cs cur e) := by
  have he := ext_newBox hm id cs cur e hA
  have hbox : ∀ i cs', (m.newBox id cs cur e).s (.box i) = .box cs' → (i = id ∧ cs' = cs) ∨ (i ≠ id ∧ m.s (.box i) = .box cs') := by
    intro i cs' h
    have h' : (m.s.put (.box id) (.box cs)) (.box i) = .box cs' := h
    by_cases hi : i = id
    · subst hi
      rw [put_box_same] at h'
      cases h'
      exact .inl ⟨rfl, rfl⟩
    · rw [put_box_ne _ _ _ _ hi] at h'
      exact .inr ⟨hi, h'⟩
  have hold : ∀ i cs', m.s (.box i) = .box cs' → m.β i < m.w.heap.size := fun i cs' h => by
    obtain ⟨_, _, cur', e', h3, _⟩ := hm.box i cs' h
    exact (Array.getElem?_eq_some_iff.1 h3).1
  have holdT : ∀ t e sz xs p, m.s (.tok t) = .tok e sz xs → m.τ t = some p → p.1 < m.w.heap.size := fun t e sz xs p h hp => by
    obtain ⟨_, _, _, _, h5⟩ := hm.tok t e sz xs h
    obtain ⟨b, o, cap⟩ := p
    obtain ⟨_, _, _, cur', h3, _⟩ := h5 b o cap hp
    exact (Array.getElem?_eq_some_iff.1 h3).1
  refine ⟨fun b hb => ?_, fun i cs' h => ?_, fun t et sz xs h => ?_, fun i j ci cj hi hj hne => ?_, hm.sepT, fun i j ci ej sj xj q hi hj hq => ?_⟩
  · have := hm.okLt b hb
    show b < (m.w.alloc _).heap.size
    simp; omega
  · rcases hbox i cs' h with ⟨rfl, rfl⟩ | ⟨hne, h'⟩
    · refine ⟨.inr rfl, ?_, cur, e, ?_, hsz, fun j c hj => ?_⟩
      · show ¬ m.ok (upd m.β i m.w.heap.size i)
        rw [upd_same]
        intro hb
        have := hm.okLt _ hb
        omega
      · show (m.w.alloc _).heap[upd m.β i m.w.heap.size i]? = _
        rw [upd_same]
        exact heap_alloc_new _ _
      · obtain ⟨u, g1, g2, g3⟩ := hc j c hj
        exact ⟨u, g1, g2, g3.ext he⟩
    · obtain ⟨h1, h2, cur', e', h3, h4, h5⟩ := hm.box i cs' h'
      have hb : upd m.β id m.w.heap.size i = m.β i := upd_ne _ _ hne
      refine ⟨.inl h1, ?_, cur', e', ?_, h4, fun j c hj => ?_⟩
      · show ¬ m.ok (upd m.β id m.w.heap.size i)
        rw [hb]; exact h2
      · show (m.w.alloc _).heap[upd m.β id m.w.heap.size i]? = _
        rw [hb, Below.heap_alloc _ _ _ (hold i cs' h')]
        exact h3
      · obtain ⟨u, g1, g2, g3⟩ := h5 j c hj
        exact ⟨u, g1, g2, g3.ext he⟩
  · obtain ⟨h1, h2, h3, h4, h5⟩ := hm.tok t et sz xs h
    refine ⟨.inl h1, h2, h3, h4, fun b o cap hb => ?_⟩
    obtain ⟨g1, g2, g3, cur', g4, g5, g6⟩ := h5 b o cap hb
    refine ⟨g1, g2, g3, cur', ?_, g5, fun i j c x hi hj => ?_⟩
    · show (m.w.alloc _).heap[b]? = _
      rw [Below.heap_alloc _ _ _ (holdT t et sz xs _ h hb)]
      exact g4
    · obtain ⟨u, q1, q2⟩ := g6 i j c x hi hj
      exact ⟨u, q1, q2.ext he.ok he.cell⟩
  · show upd m.β id m.w.heap.size i ≠ upd m.β id m.w.heap.size j
    rcases hbox i ci hi with ⟨rfl, rfl⟩ | ⟨h1, h1'⟩ <;> rcases hbox j cj hj with ⟨rfl, rfl⟩ | ⟨h2, h2'⟩
    · exact absurd rfl hne
    · rw [upd_same, upd_ne _ _ h2]
      have := hold j cj h2'
      omega
    · rw [upd_same, upd_ne _ _ h1]
      have := hold i ci h1'
      omega
    · rw [upd_ne _ _ h1, upd_ne _ _ h2]
      exact hm.sepB i j ci cj h1' h2' hne
  · show upd m.β id m.w.heap.size i ≠ q.1
    rcases hbox i ci hi with ⟨rfl, rfl⟩ | ⟨h1, h1'⟩
    · rw [upd_same]
      have := holdT j ej sj xj q hj hq
      omega
    · rw [upd_ne _ _ h1]
      exact hm.sepM i j ci ej sj xj q h1' hj hq

theorem StX.newBox {F : Fr} {a : Act} {m : Mem} (h : StX F a m) (id : Nat) (cs : List AV) (cur : Array Value) (e : TypeId) (hA : ¬ m.A id) (hsz : cur.size = cs.length)
    (hc : ∀ (j : Nat) (c : AV), cs[j]? = some c → ∃ u, cur[j]? = some u ∧ u.oneCell' = true ∧ VR0 m c u) : StX F a (m.newBox id cs cur e) := by
  have he := ext_newBox h.mr id cs cur e hA
  have hFm : F.m ≤ id := by
    rcases Nat.lt_or_ge id F.m with h1 | h1
    · exact absurd (h.parA id h1) hA
    · exact h1
  refine h.mem (mr_newBox h.mr id cs cur e hA hsz hc) he (fun l => rfl) (h.keep.alloc _ _) (fun j hj => upd_ne _ _ (by omega)) (fun i cs' hi hm => ?_) (fun t e' sz xs p ht hp => h.newT t e' sz xs p ht hp) (fun b hb => .inl hb)
  show F.w0.heap.size ≤ upd m.β id m.w.heap.size i
  by_cases hi' : i = id
  · subst hi'
    rw [upd_same]
    exact h.keep.size
  · rw [upd_ne _ _ hi']
    exact h.newB i cs' (by
      have h' : (m.s.put (.box id) (.box cs)) (.box i) = .box cs' := hi
      rwa [put_box_ne _ _ _ _ hi'] at h') hm

/-- A store into a box. -/
def Mem.setBox (m : Mem) (b : Nat) (cs : List AV) (cur : Array Value) : Mem :=
  { m with s := m.s.put (.box b) (.box cs), w := m.w.setRow (m.β b) cur }

theorem cell_setRow_ne (w : World) (g : Nat) (cs : Array Value) (b off : Nat) (h : b ≠ g) : (w.setRow g cs).cell? ⟨b, off, none⟩ = w.cell? ⟨b, off, none⟩ :=
  World.cell?_of_block (w := w) (a := ⟨b, off, none⟩) (setRow_other w g b cs h)

theorem ext_setBox {m : Mem} (hm : MR m) (b : Nat) (cs0 cs : List AV) (cur : Array Value) (hb : m.s (.box b) = .box cs0) : Ext m (m.setBox b cs cur) where
  tok := fun _ _ _ xs' h _ => ⟨xs', h, rfl, rfl⟩
  box := fun i cs' h _ => by
    by_cases hi : i = b
    · subst hi; exact ⟨⟨cs0, hb⟩, rfl⟩
    · have h' : (m.s.put (.box b) (.box cs)) (.box i) = .box cs' := h
      rw [put_box_ne _ _ _ _ hi] at h'
      exact ⟨⟨cs', h'⟩, rfl⟩
  A := fun _ h => h
  ok := fun _ h => h
  cell := fun k off hk => cell_setRow_ne _ _ _ _ _ (by rintro rfl; exact (hm.box b cs0 hb).2.1 hk)

theorem StX.setBox {F : Fr} {a : Act} {m : Mem} (h : StX F a m) (b : Nat) (cs0 cs : List AV) (cur : Array Value) (hb : m.s (.box b) = .box cs0) (hsz : cur.size = cs.length)
    (hc : ∀ (j : Nat) (c : AV), cs[j]? = some c → ∃ u, cur[j]? = some u ∧ u.oneCell' = true ∧ VR0 m c u) : StX F a (m.setBox b cs cur) := by
  have hm := h.mr
  have he := ext_setBox hm b cs0 cs cur hb
  obtain ⟨b1, b2, cur0, e0, b3, b4, b5⟩ := hm.box b cs0 hb
  have hbox : ∀ i cs', (m.setBox b cs cur).s (.box i) = .box cs' → (i = b ∧ cs' = cs) ∨ (i ≠ b ∧ m.s (.box i) = .box cs') := by
    intro i cs' h
    have h' : (m.s.put (.box b) (.box cs)) (.box i) = .box cs' := h
    by_cases hi : i = b
    · subst hi
      rw [put_box_same] at h'
      cases h'
      exact .inl ⟨rfl, rfl⟩
    · rw [put_box_ne _ _ _ _ hi] at h'
      exact .inr ⟨hi, h'⟩
  have hlive : ∀ i cs', (m.setBox b cs cur).s (.box i) = .box cs' → ∃ c, m.s (.box i) = .box c := fun i cs' h => by
    rcases hbox i cs' h with ⟨rfl, _⟩ | ⟨_, h'⟩
    · exact ⟨_, hb⟩
    · exact ⟨_, h'⟩
  refine h.mem ⟨fun k hk => ?_, fun i cs' hi => ?_, fun t et sz xs ht => ?_, fun i j ci cj hi hj hne => ?_, hm.sepT, fun i j ci ej sj xj q hi hj hq => ?_⟩ he (fun l => rfl)
    (h.keep.setRow _ _ ?_) (fun _ _ => rfl) (fun i cs' hi hmi => ?_) (fun t e' sz xs p ht hp => h.newT t e' sz xs p ht hp) (fun k hk => .inl hk)
  · show k < (m.w.setRow _ _).heap.size
    rw [size_setRow]; exact hm.okLt k hk
  · rcases hbox i cs' hi with ⟨rfl, rfl⟩ | ⟨hne, h'⟩
    · refine ⟨b1, b2, cur, e0, setRow_heap _ _ _ _ _ _ b3, hsz, fun j c hj => ?_⟩
      obtain ⟨u, g1, g2, g3⟩ := hc j c hj
      exact ⟨u, g1, g2, g3.ext he⟩
    · obtain ⟨h1, h2, cur', e', h3, h4, h5⟩ := hm.box i cs' h'
      refine ⟨h1, h2, cur', e', ?_, h4, fun j c hj => ?_⟩
      · show (m.w.setRow _ _).heap[m.β i]? = _
        rw [setRow_other _ _ _ _ (hm.sepB i b cs' cs0 h' hb hne)]
        exact h3
      · obtain ⟨u, g1, g2, g3⟩ := h5 j c hj
        exact ⟨u, g1, g2, g3.ext he⟩
  · obtain ⟨h1, h2, h3, h4, h5⟩ := hm.tok t et sz xs ht
    refine ⟨h1, h2, h3, h4, fun k o cap hk => ?_⟩
    obtain ⟨g1, g2, g3, cur', g4, g5, g6⟩ := h5 k o cap hk
    refine ⟨g1, g2, g3, cur', ?_, g5, fun i j c x hi hj => ?_⟩
    · show (m.w.setRow _ _).heap[k]? = _
      rw [setRow_other _ _ _ _ (fun e => hm.sepM b t cs0 et sz xs _ hb ht hk e.symm)]
      exact g4
    · obtain ⟨u, q1, q2⟩ := g6 i j c x hi hj
      exact ⟨u, q1, q2.ext he.ok he.cell⟩
  · obtain ⟨ci', hci⟩ := hlive i ci hi
    obtain ⟨cj', hcj⟩ := hlive j cj hj
    exact hm.sepB i j ci' cj' hci hcj hne
  · obtain ⟨ci', hci⟩ := hlive i ci hi
    exact hm.sepM i j ci' ej sj xj q hci hj hq
  · rcases Nat.lt_or_ge b F.m with h1 | h1
    · exact .inr ⟨b, h1, h.par b h1⟩
    · exact .inl (h.newB b cs0 hb h1)
  · obtain ⟨ci', hci⟩ := hlive i cs' hi
    exact h.newB i ci' hci hmi

end Go.Vc
