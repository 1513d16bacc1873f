/- Vc, part 6: the operations do what opSem says: temporaries, numbers, boxes. -/
import Derived.Test.YtfnkbbeeilpiiaaVc5
namespace Go.Vc
open Go.RowKit

/-! ### The table of types -/

def ZR : AV → Value → Prop
  | .int k n, v => v = .int k n
  | .bool b, v => v = .bool b
  | .nilS, v => v = .slice none 0 0
  | .nilp, v => v = .pointer none
  | .junk, _ => True
  | _, _ => False

def KindOk (P : Program) (t : Nat) : TK → Prop
  | .int k => P.underlying t = some (.int k)
  | .bool => P.underlying t = some .bool
  | .struct fs => ∃ flds : Array Field, P.underlying t = some (.struct flds) ∧ flds.toList.map (fun f => (f.offset, P.cellsOf f.type)) = fs ∧ ∀ f ∈ flds.toList, (P.info? f.type).isSome = true
  | .slice e => P.underlying t = some (.slice e)
  | .pointer e => P.underlying t = some (.pointer e)
  | .array n e => P.underlying t = some (.array n e)
  | .other => ∃ d, P.underlying t = some d ∧ (match d with | .struct _ | .array _ _ => true | _ => false) = false

/-- Equality at this type is equality of the cells. -/
inductive EqT (P : Program) : TypeId → List Bool → Nat → Prop
  | int (t : TypeId) (k : IntKind) (d : Nat) : P.underlying t = some (.int k) → EqT P t [true] (d + 1)
  | bool (t : TypeId) (d : Nat) : P.underlying t = some .bool → EqT P t [false] (d + 1)
  | struct (t : TypeId) (d : Nat) (kss : List (List Bool)) (hu : P.underlying t = some (.struct (P.fieldsOf t))) (hs : P.stoodInHeld t = false)
      (hl : kss.length = (P.fieldsOf t).toList.length)
      (hn : ∀ (j : Nat) (f : Field) (ks : List Bool), (P.fieldsOf t).toList[j]? = some f → kss[j]? = some ks →
        f.name ≠ "_" ∧ f.offset = (kss.take j).flatten.length ∧ (P.info? f.type).map (·.size) = some ks.length)
      (hf : ∀ (j : Nat) (f : Field) (ks : List Bool), (P.fieldsOf t).toList[j]? = some f → kss[j]? = some ks → EqT P f.type ks d) :
      EqT P t kss.flatten (d + 1)

structure TIok (P : Program) (t : Nat) (ti : TI) : Prop where
  info : ∃ i : TypeInfo, P.info? t = some i ∧ i.size = ti.size ∧ i.bytes = ti.bytes ∧ ∃ z, i.zero = some z ∧ z.cells.size = ti.size ∧ ti.zero.length = ti.size ∧
    ∀ (j : Nat) (c : AV), ti.zero[j]? = some c → ∃ u, z.cells[j]? = some u ∧ u.oneCell' = true ∧ ZR c u
  kind : KindOk P t ti.kind
  plain : ti.plain ≠ [] → P.eqGuardType P.depth t = false ∧ ti.agg = true ∧ EqT P t ti.plain 100

def TabOk (P : Program) (T : Tab) : Prop := ∀ t ti, Tab.find T t = some ti → TIok P t ti

section
variable {P : Program} {t : Nat} {ti : TI} (h : TIok P t ti) (w : World)
include h

theorem TIok.size : (sizeOf t).run P w = .ok ti.size w := by
  obtain ⟨i, h1, h2, _⟩ := h.info
  simp [sizeOf, typeInfo, h1, h2]
theorem TIok.cellsOf : P.cellsOf t = ti.size := by
  obtain ⟨i, h1, h2, _⟩ := h.info
  simp [Program.cellsOf, h1, h2]
theorem TIok.isAgg : (isAgg t).run P w = .ok ti.agg w := by
  have hk := h.kind
  unfold TI.agg
  cases hki : ti.kind <;> rw [hki] at hk <;> simp only [KindOk] at hk
  case struct fs => obtain ⟨flds, hk, _⟩ := hk; simp [Go.isAgg, run_underlying hk]
  case other =>
    obtain ⟨d, hk, hd⟩ := hk
    simp only [Go.isAgg, Sem.run_bind, run_underlying hk, Result.andThen_ok]
    cases d <;> simp_all
  all_goals simp [Go.isAgg, run_underlying hk]
theorem TIok.zero : ∃ z, (zeroValue t).run P w = .ok z w ∧ z.cells.size = ti.size ∧ ti.zero.length = ti.size ∧
    ∀ (j : Nat) (c : AV), ti.zero[j]? = some c → ∃ u, z.cells[j]? = some u ∧ u.oneCell' = true ∧ ZR c u := by
  obtain ⟨i, h1, _, _, z, h4, h5⟩ := h.info
  exact ⟨z, by simp [zeroValue, typeInfo, h1, h4], h5⟩
end

theorem ZR.vr {m : Mem} {c : AV} {v : Value} (h : ZR c v) : VR0 m c v := by
  unfold ZR at h
  split at h <;> simp_all only [VR0]
  all_goals exact absurd h id

/-! ### Values of operands -/

theorem vr_constCells (m : Mem) : ∀ (cs : List Value) (l : List AV), constCells cs = some l → l.length = cs.length ∧
    ∀ (j : Nat) (c : AV), l[j]? = some c → ∃ u, cs[j]? = some u ∧ u.oneCell' = true ∧ VR0 m c u
  | [], l, h => by simp only [constCells, Option.some.injEq] at h; subst h; simp
  | v :: r, l, h => by
    have key : ∀ (c : AV) (l' : List AV), constCells r = some l' → l = c :: l' → v.oneCell' = true → VR0 m c v → l.length = (v :: r).length ∧
        ∀ (j : Nat) (c : AV), l[j]? = some c → ∃ u, (v :: r)[j]? = some u ∧ u.oneCell' = true ∧ VR0 m c u := by
      intro c l' hl' hl h1 h2
      obtain ⟨g1, g2⟩ := vr_constCells m r l' hl'
      subst hl
      refine ⟨by simp [g1], fun j c' hj => ?_⟩
      cases j with
      | zero => simp only [List.getElem?_cons_zero, Option.some.injEq] at hj; subst hj; exact ⟨v, rfl, h1, h2⟩
      | succ j => simpa using g2 j c' (by simpa using hj)
    unfold constCells at h
    split at h
    · simp at *
    · rename_i k n r' heq
      cases heq
      split at h
      · rename_i l' hl'; cases h; exact key _ l' hl' rfl rfl rfl
      · cases h
    · rename_i b r' heq
      cases heq
      split at h
      · rename_i l' hl'; cases h; exact key _ l' hl' rfl rfl rfl
      · cases h
    · rename_i r' heq
      cases heq
      split at h
      · rename_i l' hl'; cases h; exact key _ l' hl' rfl rfl rfl
      · cases h
    · rename_i r' heq
      cases heq
      split at h
      · rename_i l' hl'; cases h; exact key _ l' hl' rfl rfl rfl
      · cases h
    · cases h

theorem vr_const (m : Mem) (v : Value) : VR m (ofConst v) v := by
  unfold ofConst
  split
  · rfl
  · rfl
  · rfl
  · rfl
  · rename_i cs
    split
    · rename_i l hl
      obtain ⟨h1, h2⟩ := vr_constCells m _ _ hl
      refine ⟨cs, rfl, by simpa using h1.symm, fun j c hj => ?_⟩
      obtain ⟨u, g1, g2⟩ := h2 j c hj
      exact ⟨u, by simpa using g1, g2⟩
    · trivial
  · trivial

theorem StX.val {F : Fr} {a : Act} {m : Mem} (h : StX F a m) (x : Operand) : VR m (m.s.val x) (a.eval x) := by
  cases x with
  | tmp t =>
    show VR m (m.s.tmp t) (a.tmps.getD t undef)
    unfold AS.tmp
    split
    · rename_i v hv; exact h.env t v hv
    · trivial
  | const v => exact vr_const m v
  | global g => trivial
  | func f => rfl

theorem ext_mono (m : Mem) (A : Nat → Prop) (hA : ∀ i, m.A i → A i) : Ext m { m with A := A } :=
  ⟨fun _ _ _ xs' h _ => ⟨xs', h, rfl, rfl⟩, fun _ cs' h _ => ⟨⟨cs', h⟩, rfl⟩, hA, fun _ h => h, fun _ _ _ => rfl⟩

/-- More numbers are taken. -/
theorem StX.mono {F : Fr} {a : Act} {m : Mem} (h : StX F a m) (A : Nat → Prop) (hA : ∀ i, m.A i → A i) : StX F a { m with A := A } := by
  have he := ext_mono m A hA
  have hm := h.mr
  refine h.mem ⟨hm.okLt, fun i cs hi => ?_, fun t e sz xs ht => ?_, hm.sepB, hm.sepT, hm.sepM⟩ he (fun _ => rfl) h.keep (fun _ _ => rfl) h.newB h.newT (fun _ hb => .inl hb)
  · obtain ⟨h1, h2, cur, e, h3, h4, h5⟩ := hm.box i cs hi
    exact ⟨hA _ h1, h2, cur, e, h3, h4, fun j c hj => let ⟨u, g1, g2, g3⟩ := h5 j c hj; ⟨u, g1, g2, g3.ext he⟩⟩
  · obtain ⟨h1, h2⟩ := hm.tok t e sz xs ht
    exact ⟨hA _ h1, h2⟩

/-! ### What is asked of an operation -/

def OpOk (F : Fr) (A : Nat → Prop) (id : Nat) (o : Oper) (s : AS) (e : Eff) : Prop :=
  ∀ a w, StR F A s a w → ¬ A id → ∀ (next : Act → World → Prop) (Q : Exit → Act → World → Prop),
    (∀ a' w', StR F (fun i => A i ∨ i = id) (s.apply e) a' w' → next a' w') → o.wp F.P a w next Q

/-- An operation that yields a value. -/
theorem opOk_value {F : Fr} {A : Nat → Prop} {id : Nat} {o : Oper} {s : AS} {e : Eff}
    (h : ∀ a m, StX F a m → m.s = s → m.A = A → ¬ A id → ∃ v w', (execOp a.eval o).run F.P m.w = .ok (.value v) w' ∧ StR F (fun i => A i ∨ i = id) (s.apply e) (a.put o.dst v) w') :
    OpOk F A id o s e := by
  rintro a w ⟨β, τ, ok, hx⟩ hA next Q hn
  obtain ⟨v, w', h1, h2⟩ := h a _ hx rfl rfl hA
  simp only [Oper.wp, h1, Oper.upon_value]
  exact hn _ _ h2

/-- An operation that computes a value and leaves memory alone. -/
theorem opOk_pure {F : Fr} {A : Nat → Prop} {id : Nat} {o : Oper} {s : AS} {x : AV} (hd : ∀ k, o.dst = some k → k < F.N)
    (h : ∀ a m, StX F a m → m.s = s → ∃ v, (execOp a.eval o).run F.P m.w = .ok (.value v) m.w ∧ VR m x v) : OpOk F A id o s (dst o.dst x) :=
  opOk_value fun a m hx hs hA _ => by
    obtain ⟨v, h1, h2⟩ := h a m hx hs
    subst hs hA
    have h3 := (hx.mono (fun i => m.A i ∨ i = id) (fun _ h => Or.inl h)).dst o.dst x v hd (h2.ext (ext_mono m _ (fun _ h => Or.inl h)))
    exact ⟨v, m.w, h1, _, _, _, h3⟩

theorem run_move (P : Program) (a : Act) (o : Oper) (w : World) (x : Operand) (ho : o.op = .move x ∨ o.op = .assign x) : (execOp a.eval o).run P w = .ok (.value (a.eval x)) w := by
  rcases ho with ho | ho <;> simp only [execOp, ho] <;> rfl

theorem ok_move {F : Fr} {A : Nat → Prop} {id : Nat} {o : Oper} {s : AS} (hd : ∀ k, o.dst = some k → k < F.N) (x : Operand) (ho : o.op = .move x ∨ o.op = .assign x) :
    OpOk F A id o s (dst o.dst (s.val x)) :=
  opOk_pure hd fun a _ hx hs => ⟨a.eval x, run_move _ _ _ _ x ho, hs ▸ hx.val x⟩

theorem ok_pick {F : Fr} {A : Nat → Prop} {id : Nat} {o : Oper} {s : AS} (hd : ∀ k, o.dst = some k → k < F.N) (c x y : Operand) (ho : o.op = .pick c x y) (b : Bool) (hb : s.val c = .bool b) :
    OpOk F A id o s (dst o.dst (s.val (bif b then x else y))) :=
  opOk_pure hd fun a m hx hs => by
    have hc := hx.val c
    rw [hs, hb] at hc
    have hc' : a.eval c = .bool b := hc
    refine ⟨a.eval (bif b then x else y), ?_, hs ▸ hx.val _⟩
    simp only [execOp, ho, hc', asBool, Sem.run_bind, Sem.run_pure, Result.andThen_ok]
    cases b <;> rfl

/-! ### Numbers and bools -/

theorem boolOf_vr {m : Mem} {x : AV} {v : Value} {b : Bool} (h : boolOf x = some b) (hv : VR m x v) : v = .bool b := by
  cases x <;> simp only [boolOf, Option.some.injEq] at h <;> first | (subst h; exact hv) | cases h

theorem run_int_bin (P : Program) (w : World) (op : BinOp) (t : TypeId) (x y : Operand) (k : IntKind) (a b : Int) (v : AV) (hv : intOp op k a b = some v) (m : Mem) :
    ∃ u, ((do eqGuard op t x y (.int k a) (.int k b); binOp op t (.int k a) (.int k b) : Sem Value)).run P w = .ok u w ∧ VR m v u := by
  cases op <;> simp only [intOp, Option.some.injEq] at hv <;> cases hv
  all_goals
    refine ⟨_, by first | (simp [eqGuard, binOp, Op.intArith, Op.intCmp]; rfl) | (simp [eqGuard, binOp]; rfl), ?_⟩
    rfl


theorem ok_intBin {F : Fr} {A : Nat → Prop} {id : Nat} {o : Oper} {s : AS} (hd : ∀ k, o.dst = some k → k < F.N) (op : BinOp) (t : TypeId) (x y : Operand) (t' : TypeId) (ho : o.op = .binOp op t x y t')
    (k : IntKind) (p q : Int) (hx : s.val x = .int k p) (hy : s.val y = .int k q) (v : AV) (hv : intOp op k p q = some v) : OpOk F A id o s (dst o.dst v) :=
  opOk_pure hd fun a m h hs => by
    have h1 := h.val x
    have h2 := h.val y
    rw [hs, hx] at h1
    rw [hs, hy] at h2
    have h1' : a.eval x = .int k p := h1
    have h2' : a.eval y = .int k q := h2
    obtain ⟨u, h3, h4⟩ := run_int_bin F.P m.w op t x y k p q v hv m
    refine ⟨u, ?_, h4⟩
    simp only [execOp, ho, h1', h2']
    simp only [Sem.run_bind] at h3 ⊢
    rw [h3]
    rfl

theorem ok_div {F : Fr} {A : Nat → Prop} {id : Nat} {o : Oper} {s : AS} (hd : ∀ k, o.dst = some k → k < F.N) (op : BinOp) (t : TypeId) (x y : Operand) (t' : TypeId) (ho : o.op = .binOp op t x y t')
    (k : IntKind) (p q : Int) (hx : s.val x = .int k p) (hy : s.val y = .int k q) (hq : q ≠ 0) (hop : op = .quo ∨ op = .rem) :
    OpOk F A id o s (dst o.dst (.int k (match op with | .quo => k.wrap (p.tdiv q) | _ => p.tmod q))) :=
  opOk_pure hd fun a m h hs => by
    have h1 := h.val x
    have h2 := h.val y
    rw [hs, hx] at h1
    rw [hs, hy] at h2
    have h1' : a.eval x = .int k p := h1
    have h2' : a.eval y = .int k q := h2
    rcases hop with rfl | rfl <;> exact ⟨_, by simp [execOp, ho, h1', h2', eqGuard, binOp, Op.intDiv, hq], rfl⟩

theorem ok_shift {F : Fr} {A : Nat → Prop} {id : Nat} {o : Oper} {s : AS} (hd : ∀ k, o.dst = some k → k < F.N) (op : BinOp) (t : TypeId) (x y : Operand) (t' : TypeId) (ho : o.op = .binOp op t x y t')
    (k k' : IntKind) (p q : Int) (hx : s.val x = .int k p) (hy : s.val y = .int k' q) (hq : 0 ≤ q) (hop : op = .shl ∨ op = .shr) :
    OpOk F A id o s (dst o.dst (.int k (match op with | .shl => k.wrap (p * 2 ^ (min q.toNat k.bits)) | _ => p.fdiv (2 ^ (min q.toNat k.bits))))) :=
  opOk_pure hd fun a m h hs => by
    have h1 := h.val x
    have h2 := h.val y
    rw [hs, hx] at h1
    rw [hs, hy] at h2
    have h1' : a.eval x = .int k p := h1
    have h2' : a.eval y = .int k' q := h2
    have hn : ¬ q < 0 := by omega
    rcases hop with rfl | rfl
    · exact ⟨_, by simp only [execOp, ho, h1', h2', eqGuard, binOp, Op.shift, hn, if_false, Sem.run_bind]; rfl, rfl⟩
    · exact ⟨_, by simp only [execOp, ho, h1', h2', eqGuard, binOp, Op.shift, hn, if_false, Sem.run_bind]; rfl, rfl⟩

theorem ok_un {F : Fr} {A : Nat → Prop} {id : Nat} {o : Oper} {s : AS} (hd : ∀ k, o.dst = some k → k < F.N) (op : UnOp) (t : TypeId) (x : Operand) (ho : o.op = .unOp op t x)
    (v : AV) (hv' : ∀ (m : Mem) (u : Value), VR m (s.val x) u → ∃ r, ∀ (P : Program) (w : World), (Op.unary op u).run P w = .ok r w ∧ VR m v r) :
    OpOk F A id o s (dst o.dst v) :=
  opOk_pure hd fun a m h hs => by
    obtain ⟨r, hr⟩ := hv' m (a.eval x) (hs ▸ h.val x)
    refine ⟨r, ?_, (hr F.P m.w).2⟩
    simp only [execOp, ho, Sem.run_bind, (hr F.P m.w).1]
    rfl

theorem ok_convert {F : Fr} {A : Nat → Prop} {id : Nat} {o : Oper} {s : AS} (hd : ∀ k, o.dst = some k → k < F.N) (t t' : TypeId) (x : Operand) (ho : o.op = .convert t t' x)
    (k k' : IntKind) (n : Int) (hx : s.val x = .int k' n) (d : TypeDesc) (ht : F.P.underlying t = some d) (ht' : F.P.underlying t' = some (.int k)) :
    OpOk F A id o s (dst o.dst (.int k (k.wrap n))) :=
  opOk_pure hd fun a m h hs => by
    have h1 := h.val x
    rw [hs, hx] at h1
    have h1' : a.eval x = .int k' n := h1
    refine ⟨.int k (k.wrap n), ?_, rfl⟩
    simp only [execOp, ho, h1', convert, Sem.run_bind, run_underlying ht, run_underlying ht', Result.andThen_ok, Conv.intToInt]
    cases d <;> rfl

theorem ok_extract {F : Fr} {A : Nat → Prop} {id : Nat} {o : Oper} {s : AS} (hd : ∀ k, o.dst = some k → k < F.N) (x : Operand) (i : Nat) (ho : o.op = .extract x i)
    (vs : List AV) (hx : s.val x = .tup vs) (v : AV) (hv : vs[i]? = some v) : OpOk F A id o s (dst o.dst v) :=
  opOk_pure hd fun a m h hs => by
    have h1 := h.val x
    rw [hs, hx] at h1
    obtain ⟨us, h2, _, h4⟩ := h1
    obtain ⟨u, h5, h6⟩ := h4 i v hv
    refine ⟨u, ?_, ?_⟩
    · simp only [execOp, ho, h2, Instr.extract, h5, Sem.run_bind]; rfl
    · cases v <;> first | exact h6 | exact (show False from h6).elim

end Go.Vc
