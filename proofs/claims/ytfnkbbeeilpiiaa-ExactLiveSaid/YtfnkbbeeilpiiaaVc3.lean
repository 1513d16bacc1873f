/- Vc, part 3: what it means that a concrete state is as an abstract one says; that this is kept while memory changes. -/
import Derived.Test.YtfnkbbeeilpiiaaVc2
namespace Go.Vc
open Go.RowKit

theorem PR.ext {w w' : World} {ok ok' : Nat → Prop} {x : AV} {v : Value} (h : PR w ok x v) (hok : ∀ b, ok b → ok' b)
    (hc : ∀ b off, ok b → w'.cell? ⟨b, off, none⟩ = w.cell? ⟨b, off, none⟩) : PR w' ok' x v := by
  induction h with
  | int k n => exact .int k n
  | bool b => exact .bool b
  | sb b => exact .sb b
  | nilp => exact .nilp
  | nilS => exact .nilS
  | lst sz full xs a cap u hcap hmax hfull hsz hnone hcell hrec ih =>
    refine .lst sz full xs a cap u hcap hmax hfull hsz hnone (fun i j c x hi hj ad ha => ?_) ih
    obtain ⟨h1, h2, h3⟩ := hcell i j c x hi hj ad ha
    exact ⟨h1, hok _ h2, by rw [hc _ _ h2]; exact h3⟩

theorem PR.oneCell {w : World} {ok : Nat → Prop} {x : AV} {v : Value} (h : PR w ok x v) : v.oneCell' = true := by
  cases h <;> rfl

structure Mem where
  s : AS
  β : Nat → Nat
  τ : Nat → Option (Nat × Nat × Nat)
  A : Nat → Prop
  ok : Nat → Prop
  w : World

def VR0 (m : Mem) : AV → Value → Prop
  | .int k n, v => v = .int k n
  | .bool b, v => v = .bool b
  | .sb b, v => v = .bool b
  | .lst sz f xs, v => PR m.w m.ok (.lst sz f xs) v
  | .own t, v => m.A t ∧ v.oneCell' = true ∧ ∀ e sz xs, m.s (.tok t) = .tok e sz xs →
      (m.τ t = none → v = .slice none 0 0) ∧ ∀ b o cap, m.τ t = some (b, o, cap) → v = .slice (some ⟨b, o, none⟩) xs.length cap
  | .ptr id off, v => m.A id ∧ v.oneCell' = true ∧ ((∃ cs, m.s (.box id) = .box cs) → v = .pointer (some ⟨m.β id, off, none⟩))
  | .rp cs, v => ∃ ad : Addr, v = .pointer (some ad) ∧ ad.spot = none ∧ ∀ (j : Nat) (x : AV), cs[j]? = some x →
      m.ok ad.block ∧ ∃ u, m.w.cell? ⟨ad.block, ad.off + j, none⟩ = some u ∧ PR m.w m.ok x u
  | .elt t i j, v => m.A t ∧ v.oneCell' = true ∧ ∀ e sz xs, m.s (.tok t) = .tok e sz xs → i < xs.length ∧ ∀ b o cap, m.τ t = some (b, o, cap) →
      v = .pointer (some ⟨b, o + (i * sz + j), none⟩)
  | .fn f, v => v = .func (.func f) #[] #[]
  | .nilp, v => v = .pointer none
  | .nilS, v => v = .slice none 0 0
  | .junk, _ => True
  | .agg _, _ => False
  | .tup _, _ => False

def VR1 (m : Mem) : AV → Value → Prop
  | .agg cs, v => ∃ vs : Array Value, v = .agg vs ∧ vs.size = cs.length ∧
      ∀ (j : Nat) (c : AV), cs[j]? = some c → ∃ u, vs[j]? = some u ∧ u.oneCell' = true ∧ VR0 m c u
  | c, v => VR0 m c v

def VR (m : Mem) : AV → Value → Prop
  | .tup as, v => ∃ vs : Array Value, v = .tuple vs ∧ vs.size = as.length ∧
      ∀ (j : Nat) (c : AV), as[j]? = some c → ∃ u, vs[j]? = some u ∧ VR1 m c u
  | c, v => VR1 m c v

/-- What was there still stands. -/
structure Ext (m m' : Mem) : Prop where
  tok : ∀ t e sz xs', m'.s (.tok t) = .tok e sz xs' → m.A t →
    ∃ xs, m.s (.tok t) = .tok e sz xs ∧ xs.length = xs'.length ∧ m'.τ t = m.τ t
  box : ∀ id cs', m'.s (.box id) = .box cs' → m.A id → (∃ cs, m.s (.box id) = .box cs) ∧ m'.β id = m.β id
  A : ∀ i, m.A i → m'.A i
  ok : ∀ b, m.ok b → m'.ok b
  cell : ∀ b off, m.ok b → m'.w.cell? ⟨b, off, none⟩ = m.w.cell? ⟨b, off, none⟩

theorem VR0.ext {m m' : Mem} (h : Ext m m') {c : AV} {v : Value} (hv : VR0 m c v) : VR0 m' c v := by
  cases c <;> simp only [VR0] at hv ⊢ <;> try exact hv
  case lst sz f xs => exact hv.ext h.ok h.cell
  case own t =>
    refine ⟨h.A _ hv.1, hv.2.1, fun e sz xs' hs => ?_⟩
    obtain ⟨xs, h1, h2, h3⟩ := h.tok t e sz xs' hs hv.1
    obtain ⟨g1, g2⟩ := hv.2.2 e sz xs h1
    rw [h3, ← h2]
    exact ⟨g1, g2⟩
  case ptr id off =>
    refine ⟨h.A _ hv.1, hv.2.1, fun ⟨cs, hcs⟩ => ?_⟩
    obtain ⟨h1, h2⟩ := h.box id cs hcs hv.1
    rw [h2]
    exact hv.2.2 h1
  case rp cs =>
    obtain ⟨ad, h1, h2, h3⟩ := hv
    refine ⟨ad, h1, h2, fun j x hj => ?_⟩
    obtain ⟨g1, u, g2, g3⟩ := h3 j x hj
    exact ⟨h.ok _ g1, u, by rw [h.cell _ _ g1]; exact g2, g3.ext h.ok h.cell⟩
  case elt t i j =>
    refine ⟨h.A _ hv.1, hv.2.1, fun e sz xs' hs => ?_⟩
    obtain ⟨xs, h1, h2, h3⟩ := h.tok t e sz xs' hs hv.1
    obtain ⟨g1, g2⟩ := hv.2.2 e sz xs h1
    exact ⟨h2 ▸ g1, fun b o cap hb => g2 b o cap (h3 ▸ hb)⟩

theorem VR1.ext {m m' : Mem} (h : Ext m m') {c : AV} {v : Value} (hv : VR1 m c v) : VR1 m' c v := by
  cases c <;> simp only [VR1] at hv ⊢ <;> try exact VR0.ext h hv
  case agg cs =>
    obtain ⟨vs, h1, h2, h3⟩ := hv
    refine ⟨vs, h1, h2, fun j c hj => ?_⟩
    obtain ⟨u, g1, g2, g3⟩ := h3 j c hj
    exact ⟨u, g1, g2, g3.ext h⟩

theorem VR.ext {m m' : Mem} (h : Ext m m') {c : AV} {v : Value} (hv : VR m c v) : VR m' c v := by
  cases c <;> simp only [VR] at hv ⊢ <;> try exact VR1.ext h hv
  case tup cs =>
    obtain ⟨vs, h1, h2, h3⟩ := hv
    refine ⟨vs, h1, h2, fun j c hj => ?_⟩
    obtain ⟨u, g1, g3⟩ := h3 j c hj
    exact ⟨u, g1, g3.ext h⟩

/-- Memory is as the state says. -/
structure MR (m : Mem) : Prop where
  okLt : ∀ b, m.ok b → b < m.w.heap.size
  box : ∀ id cs, m.s (.box id) = .box cs → m.A id ∧ ¬ m.ok (m.β id) ∧ ∃ cur e, m.w.heap[m.β id]? = some (.cells cur e (0, 0)) ∧ cur.size = cs.length ∧
    ∀ (j : Nat) (c : AV), cs[j]? = some c → ∃ u, cur[j]? = some u ∧ u.oneCell' = true ∧ VR0 m c u
  tok : ∀ t e sz xs, m.s (.tok t) = .tok e sz xs → m.A t ∧ 0 < sz ∧ (∀ c ∈ xs, c.length = sz) ∧ (m.τ t = none → xs = []) ∧
    ∀ b o cap, m.τ t = some (b, o, cap) → ¬ m.ok b ∧ xs.length ≤ cap ∧ cap ≤ maxLen ∧ ∃ cur, m.w.heap[b]? = some (.cells cur e (0, 0)) ∧ o + cap * sz ≤ cur.size ∧
      ∀ (i j : Nat) (c : List AV) (x : AV), xs[i]? = some c → c[j]? = some x → ∃ u, cur[o + (i * sz + j)]? = some u ∧ PR m.w m.ok x u
  sepB : ∀ i j ci cj, m.s (.box i) = .box ci → m.s (.box j) = .box cj → i ≠ j → m.β i ≠ m.β j
  sepT : ∀ i j ei ej si sj xi xj p q, m.s (.tok i) = .tok ei si xi → m.s (.tok j) = .tok ej sj xj → m.τ i = some p → m.τ j = some q → i ≠ j → p.1 ≠ q.1
  sepM : ∀ i j ci ej sj xj q, m.s (.box i) = .box ci → m.s (.tok j) = .tok ej sj xj → m.τ j = some q → m.β i ≠ q.1

/-- The frame of a call: the program, the number of temporaries, the world in which it began, which blocks the arguments may be read from, the boxes that came in. -/
structure Fr where
  P : Program
  N : Nat
  w0 : World
  ok0 : Nat → Prop
  β0 : Nat → Nat
  m : Nat

structure Keep (F : Fr) (w : World) : Prop where
  os : w.os = F.w0.os
  tape : w.tape = F.w0.tape
  output : w.output = F.w0.output
  size : F.w0.heap.size ≤ w.heap.size
  block : ∀ k, k < F.w0.heap.size → (∀ j, j < F.m → k ≠ F.β0 j) → w.heap[k]? = F.w0.heap[k]?
  fz : ∀ a, w.frozen? a = F.w0.frozen? a

structure StX (F : Fr) (a : Act) (m : Mem) : Prop where
  mr : MR m
  defers : a.defers = []
  size : a.tmps.size = F.N
  env : ∀ l v, m.s (.tmp l) = .av v → VR m v (a.tmps.getD l undef)
  keep : Keep F m.w
  par : ∀ j, j < F.m → m.β j = F.β0 j
  parA : ∀ j, j < F.m → m.A j
  newB : ∀ id cs, m.s (.box id) = .box cs → F.m ≤ id → F.w0.heap.size ≤ m.β id
  newT : ∀ t e sz xs p, m.s (.tok t) = .tok e sz xs → m.τ t = some p → F.w0.heap.size ≤ p.1
  ok0 : ∀ b, F.ok0 b → m.ok b
  okNew : ∀ b, m.ok b → F.ok0 b ∨ F.w0.heap.size ≤ b

def StR (F : Fr) (A : Nat → Prop) (s : AS) (a : Act) (w : World) : Prop := ∃ β τ ok, StX F a ⟨s, β, τ, A, ok, w⟩

/-! ### Looking at states -/

theorem nbeq_self (d : Nat) : Nat.beq d d = true := Nat.beq_refl d
theorem nbeq_ne {l d : Nat} (h : l ≠ d) : Nat.beq l d = false := by
  cases hb : Nat.beq l d
  · rfl
  · exact absurd (Nat.eq_of_beq_eq_true hb) h

theorem put_tmp_same (s : AS) (d : Nat) (c : Cont) : (s.put (.tmp d) c) (.tmp d) = c := by
  simp only [AS.put, Loc.beq, nbeq_self]
theorem put_tmp_ne (s : AS) (d l : Nat) (c : Cont) (h : l ≠ d) : (s.put (.tmp d) c) (.tmp l) = s (.tmp l) := by
  simp only [AS.put, Loc.beq, nbeq_ne h]
@[simp] theorem put_tmp_box (s : AS) (d i : Nat) (c : Cont) : (s.put (.tmp d) c) (.box i) = s (.box i) := rfl
@[simp] theorem put_tmp_tok (s : AS) (d i : Nat) (c : Cont) : (s.put (.tmp d) c) (.tok i) = s (.tok i) := rfl
@[simp] theorem put_box_tmp (s : AS) (d i : Nat) (c : Cont) : (s.put (.box d) c) (.tmp i) = s (.tmp i) := rfl
@[simp] theorem put_box_tok (s : AS) (d i : Nat) (c : Cont) : (s.put (.box d) c) (.tok i) = s (.tok i) := rfl
@[simp] theorem put_tok_tmp (s : AS) (d i : Nat) (c : Cont) : (s.put (.tok d) c) (.tmp i) = s (.tmp i) := rfl
@[simp] theorem put_tok_box (s : AS) (d i : Nat) (c : Cont) : (s.put (.tok d) c) (.box i) = s (.box i) := rfl
theorem put_box_same (s : AS) (d : Nat) (c : Cont) : (s.put (.box d) c) (.box d) = c := by
  simp only [AS.put, Loc.beq, nbeq_self]
theorem put_box_ne (s : AS) (d l : Nat) (c : Cont) (h : l ≠ d) : (s.put (.box d) c) (.box l) = s (.box l) := by
  simp only [AS.put, Loc.beq, nbeq_ne h]
theorem put_tok_same (s : AS) (d : Nat) (c : Cont) : (s.put (.tok d) c) (.tok d) = c := by
  simp only [AS.put, Loc.beq, nbeq_self]
theorem put_tok_ne (s : AS) (d l : Nat) (c : Cont) (h : l ≠ d) : (s.put (.tok d) c) (.tok l) = s (.tok l) := by
  simp only [AS.put, Loc.beq, nbeq_ne h]

/-! ### A temporary is laid -/

theorem Ext.tmp (m : Mem) (d : Nat) (c : Cont) : Ext m { m with s := m.s.put (.tmp d) c } where
  tok := fun _ _ _ xs' h _ => ⟨xs', h, rfl, rfl⟩
  box := fun _ cs' h _ => ⟨⟨cs', h⟩, rfl⟩
  A := fun _ h => h
  ok := fun _ h => h
  cell := fun _ _ _ => rfl

theorem MR.tmp {m : Mem} (h : MR m) (d : Nat) (c : Cont) : MR { m with s := m.s.put (.tmp d) c } where
  okLt := h.okLt
  box := fun id cs hs => by
    obtain ⟨h1, h2, cur, e, h3, h4, h5⟩ := h.box id cs hs
    exact ⟨h1, h2, cur, e, h3, h4, fun j c' hj => let ⟨u, g1, g2, g3⟩ := h5 j c' hj; ⟨u, g1, g2, g3.ext (Ext.tmp m d c)⟩⟩
  tok := h.tok
  sepB := h.sepB
  sepT := h.sepT
  sepM := h.sepM

theorem StX.tmp {F : Fr} {a : Act} {m : Mem} (h : StX F a m) (d : Nat) (v : AV) (u : Value) (hd : d < F.N) (hv : VR m v u) :
    StX F (a.put (some d) u) { m with s := m.s.put (.tmp d) (.av v) } where
  mr := h.mr.tmp d _
  defers := h.defers
  size := by simp [Act.put, h.size]
  env := fun l v' hl => by
    dsimp only at hl
    by_cases hld : l = d
    · subst hld
      rw [put_tmp_same] at hl
      cases hl
      have : (a.put (some l) u).tmps.getD l undef = u := by
        simp only [Act.put]
        rw [Array.getD_eq_getD_getElem?, Array.getElem?_setIfInBounds_self_of_lt (by rw [h.size]; exact hd)]
        rfl
      rw [this]
      exact hv.ext (Ext.tmp m l _)
    · rw [put_tmp_ne _ _ _ _ hld] at hl
      have : (a.put (some d) u).tmps.getD l undef = a.tmps.getD l undef := by
        simp only [Act.put]
        rw [Array.getD_eq_getD_getElem?, Array.getD_eq_getD_getElem?, Array.getElem?_setIfInBounds_ne (by omega)]
      rw [this]
      exact (h.env l v' hl).ext (Ext.tmp m d _)
  keep := h.keep
  par := h.par
  parA := h.parA
  newB := h.newB
  newT := h.newT
  ok0 := h.ok0
  okNew := h.okNew

/-- The result is laid, where there is a place for it. -/
theorem StX.dst {F : Fr} {a : Act} {m : Mem} (h : StX F a m) (d : Option Nat) (v : AV) (u : Value) (hd : ∀ k, d = some k → k < F.N) (hv : VR m v u) :
    StX F (a.put d u) { m with s := m.s.apply (dst d v) } := by
  cases d with
  | none => exact h
  | some k => exact h.tmp k v u (hd k rfl) hv

/-! ### Memory changes: the general step -/

/-- The temporaries stand, memory has changed. -/
theorem StX.mem {F : Fr} {a : Act} {m m' : Mem} (h : StX F a m) (hm : MR m') (he : Ext m m') (htmp : ∀ l, m'.s (.tmp l) = m.s (.tmp l))
    (hk : Keep F m'.w) (hp : ∀ j, j < F.m → m'.β j = m.β j)
    (hB : ∀ id cs, m'.s (.box id) = .box cs → F.m ≤ id → F.w0.heap.size ≤ m'.β id)
    (hT : ∀ t e sz xs p, m'.s (.tok t) = .tok e sz xs → m'.τ t = some p → F.w0.heap.size ≤ p.1)
    (hok : ∀ b, m'.ok b → m.ok b ∨ F.w0.heap.size ≤ b) : StX F a m' where
  mr := hm
  defers := h.defers
  size := h.size
  env := fun l v hl => by rw [htmp] at hl; exact (h.env l v hl).ext he
  keep := hk
  par := fun j hj => (hp j hj).trans (h.par j hj)
  parA := fun j hj => he.A _ (h.parA j hj)
  newB := hB
  newT := hT
  ok0 := fun b hb => he.ok _ (h.ok0 b hb)
  okNew := fun b hb => by
    rcases hok b hb with h1 | h1
    · exact h.okNew b h1
    · exact .inr h1

end Go.Vc
