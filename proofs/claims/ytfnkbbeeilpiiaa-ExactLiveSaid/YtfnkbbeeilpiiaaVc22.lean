/- Vc, part 22: regions whose order is drawn. -/
import Derived.Test.YtfnkbbeeilpiiaaVc21
namespace Go.Vc
open Go.RowKit

def touch : Eff → List Nat
  | [] => []
  | (.tmp _, _) :: e => touch e
  | (.box i, _) :: e => i :: touch e
  | (.tok i, _) :: e => i :: touch e

def tmpFit (d : Option Tmp) : Eff → Bool
  | [] => true
  | (.tmp t, _) :: e => (match d with
    | some k => Nat.beq t k
    | none => false) && tmpFit d e
  | (.box _, _) :: e => tmpFit d e
  | (.tok _, _) :: e => tmpFit d e

def writes (l : Loc) : Eff → Bool
  | [] => false
  | (m, _) :: e => Loc.beq l m || writes l e

theorem apply_out (s : AS) (l : Loc) : ∀ (e : Eff), writes l e = false → (s.apply e) l = s l
  | [], _ => rfl
  | (m, c) :: e, h => by
    simp only [writes, Bool.or_eq_false_iff] at h
    show (AS.put (s.apply e) m c) l = _
    simp only [AS.put, h.1]
    exact apply_out s l e h.2

theorem apply_in (s s' : AS) (l : Loc) : ∀ (e : Eff), writes l e = true → (s.apply e) l = (s'.apply e) l
  | [], h => by cases h
  | (m, c) :: e, h => by
    simp only [writes, Bool.or_eq_true] at h
    show (AS.put (s.apply e) m c) l = (AS.put (s'.apply e) m c) l
    cases hb : Loc.beq l m with
    | true => simp only [AS.put, hb]
    | false =>
      simp only [AS.put, hb]
      exact apply_in s s' l e (h.resolve_left (by rw [hb]; simp))

theorem writes_tmp {d : Option Tmp} {t : Nat} {e : Eff} : tmpFit d e = true → writes (.tmp t) e = true → d = some t := by
  induction e with
  | nil => intro _ h; cases h
  | cons p e ih =>
    obtain ⟨l, c⟩ := p
    intro h hw
    simp only [writes, Bool.or_eq_true] at hw
    cases l with
    | tmp m =>
      simp only [tmpFit, Bool.and_eq_true] at h
      rcases hw with hw | hw
      · cases d with
        | none => simp at h
        | some k =>
          have h1 := Nat.eq_of_beq_eq_true h.1
          have h2 : t = m := Nat.eq_of_beq_eq_true hw
          rw [h2, h1]
      · exact ih h.2 hw
    | box m => exact ih h (hw.resolve_left (by simp [Loc.beq]))
    | tok m => exact ih h (hw.resolve_left (by simp [Loc.beq]))

theorem writes_id {k : Nat} {e : Eff} : (writes (.box k) e = true ∨ writes (.tok k) e = true) → k ∈ touch e := by
  induction e with
  | nil => intro h; rcases h with h | h <;> cases h
  | cons p e ih =>
    obtain ⟨l, c⟩ := p
    intro h
    simp only [writes, Bool.or_eq_true] at h
    cases l with
    | tmp m => exact ih (h.imp (fun h => h.resolve_left (by simp [Loc.beq])) (fun h => h.resolve_left (by simp [Loc.beq])))
    | box m =>
      rcases h with (h | h) | h
      · have h' : k = m := Nat.eq_of_beq_eq_true h
        subst h'; simp [touch]
      · simp only [touch, List.mem_cons]; exact .inr (ih (.inl h))
      · simp only [touch, List.mem_cons]; exact .inr (ih (.inr (h.resolve_left (by simp [Loc.beq]))))
    | tok m =>
      rcases h with h | (h | h)
      · simp only [touch, List.mem_cons]; exact .inr (ih (.inl (h.resolve_left (by simp [Loc.beq]))))
      · have h' : k = m := Nat.eq_of_beq_eq_true h
        subst h'; simp [touch]
      · simp only [touch, List.mem_cons]; exact .inr (ih (.inr h))

theorem apply_tmp_out {s : AS} {d : Option Tmp} {e : Eff} (h : tmpFit d e = true) {t : Nat} (ht : d ≠ some t) : (s.apply e) (.tmp t) = s (.tmp t) := by
  apply apply_out
  cases hw : writes (.tmp t) e with
  | false => rfl
  | true => exact absurd (writes_tmp h hw) ht

theorem apply_id_out {s : AS} {e : Eff} {k : Nat} (h : k ∉ touch e) : (s.apply e) (.box k) = s (.box k) ∧ (s.apply e) (.tok k) = s (.tok k) := by
  constructor
  · apply apply_out
    cases hw : writes (.box k) e with
    | false => rfl
    | true => exact absurd (writes_id (.inl hw)) h
  · apply apply_out
    cases hw : writes (.tok k) e with
    | false => rfl
    | true => exact absurd (writes_id (.inr hw)) h

theorem apply_comm (s : AS) {d d' : Option Tmp} {e e' : Eff} (h : tmpFit d e = true) (h' : tmpFit d' e' = true) (hd : ∀ t, d = some t → d' ≠ some t) (ht : ∀ k ∈ touch e, k ∉ touch e') :
    (s.apply e).apply e' = (s.apply e').apply e := by
  funext l
  cases hw : writes l e with
  | true =>
    have hw' : writes l e' = false := by
      cases hw' : writes l e' with
      | false => rfl
      | true =>
        cases l with
        | tmp t => exact absurd (writes_tmp h' hw') (hd t (writes_tmp h hw))
        | box k => exact absurd (writes_id (.inl hw')) (ht k (writes_id (.inl hw)))
        | tok k => exact absurd (writes_id (.inr hw')) (ht k (writes_id (.inr hw)))
    rw [apply_out _ _ _ hw']
    exact apply_in _ _ _ _ hw
  | false =>
    rw [apply_out (s.apply e') _ _ hw]
    cases hw' : writes l e' with
    | true => exact apply_in _ _ _ _ hw'
    | false => rw [apply_out _ _ _ hw', apply_out _ _ _ hw', apply_out _ _ _ hw]

theorem boxIds_local {s s' : AS} (v : AV) (h : AgreeOn (ids v) s s') : boxIds s v = boxIds s' v := by
  cases v <;> try rfl
  case ptr i j => simp only [boxIds, (h i (by simp [ids, ids0])).1]

theorem refs_local {s s' : AS} {o : Oper} (hv : ∀ x ∈ o.op.operands.toList, s.val x = s'.val x) (ha : AgreeOn (refs s o) s s') : refs s' o = refs s o := by
  unfold refs
  have key : ∀ x ∈ o.op.operands.toList, ids (s'.val x) ++ boxIds s' (s'.val x) = ids (s.val x) ++ boxIds s (s.val x) := fun x hx => by
    rw [← hv x hx, ← boxIds_local (s.val x) (ha.mono (refs_ids hx))]
  generalize o.op.operands.toList = l at key
  induction l with
  | nil => rfl
  | cons x l ih => simp only [List.flatMap_cons, key x (by simp), ih (fun y hy => key y (by simp [hy]))]

/-- Whether the guard lets an operation run. -/
def gw (ops : List Oper) (s : AS) (o : Oper) : Option Bool := match o.guard with
  | none => some true
  | some (j, want) => match gtmp ops j with
    | none => none
    | some d => match boolOf (s.tmp d) with
      | some b => some (b == want)
      | none => match s.tmp d with
        | .tup _ => some false
        | _ => none

/-- Some booleans are known better. -/
def Ref (s s' : AS) : Prop := ∀ l, s' l = s l ∨ ∃ t b, l = .tmp t ∧ s l = .av (.sb b) ∧ s' l = .av (.bool b)

theorem Ref.refl (s : AS) : Ref s s := fun _ => .inl rfl

theorem Ref.box {s s' : AS} (h : Ref s s') (i : Nat) : s' (.box i) = s (.box i) := by
  rcases h (.box i) with h | ⟨t, b, h, _⟩
  · exact h
  · cases h

theorem Ref.tok {s s' : AS} (h : Ref s s') (i : Nat) : s' (.tok i) = s (.tok i) := by
  rcases h (.tok i) with h | ⟨t, b, h, _⟩
  · exact h
  · cases h

theorem Ref.apply {s s' : AS} (h : Ref s s') (e : Eff) : Ref (s.apply e) (s'.apply e) := fun l => by
  cases hw : writes l e with
  | true => exact .inl (apply_in _ _ _ _ hw)
  | false =>
    rw [apply_out _ _ _ hw, apply_out _ _ _ hw]
    exact h l

theorem ref_mem {s s' : AS} (h : Ref s s') {β τ A ok w} (hm : MR ⟨s, β, τ, A, ok, w⟩) : Ext ⟨s, β, τ, A, ok, w⟩ ⟨s', β, τ, A, ok, w⟩ ∧ Ext ⟨s', β, τ, A, ok, w⟩ ⟨s, β, τ, A, ok, w⟩ ∧ MR ⟨s', β, τ, A, ok, w⟩ := by
  have e1 : Ext ⟨s, β, τ, A, ok, w⟩ ⟨s', β, τ, A, ok, w⟩ := ⟨fun t e sz xs' hs _ => ⟨xs', (h.tok t).symm.trans hs, rfl, rfl⟩, fun i cs' hs _ => ⟨⟨cs', (h.box i).symm.trans hs⟩, rfl⟩, fun _ h => h, fun _ h => h, fun _ _ _ => rfl⟩
  have e2 : Ext ⟨s', β, τ, A, ok, w⟩ ⟨s, β, τ, A, ok, w⟩ := ⟨fun t e sz xs' hs _ => ⟨xs', (h.tok t).trans hs, rfl, rfl⟩, fun i cs' hs _ => ⟨⟨cs', (h.box i).trans hs⟩, rfl⟩, fun _ h => h, fun _ h => h, fun _ _ _ => rfl⟩
  have hb : ∀ i c, s' (.box i) = .box c → s (.box i) = .box c := fun i c hc => by rw [← h.box i]; exact hc
  have ht : ∀ i e sz xs, s' (.tok i) = .tok e sz xs → s (.tok i) = .tok e sz xs := fun i e sz xs hc => by rw [← h.tok i]; exact hc
  refine ⟨e1, e2, hm.okLt, fun i c hc => ?_, fun t e sz xs hs => hm.tok t e sz xs (ht t e sz xs hs), fun i j ci cj hi hj hne => hm.sepB i j ci cj (hb i ci hi) (hb j cj hj) hne,
    fun i j ei ej si sj xi xj p q hi hj hp hq hne => hm.sepT i j ei ej si sj xi xj p q (ht _ _ _ _ hi) (ht _ _ _ _ hj) hp hq hne, fun i j ci ej sj xj q hi hj hq => hm.sepM i j ci ej sj xj q (hb i ci hi) (ht _ _ _ _ hj) hq⟩
  obtain ⟨h1, h2, cur, e, h3, h4, h5⟩ := hm.box i c (hb i c hc)
  exact ⟨h1, h2, cur, e, h3, h4, fun j c hj => let ⟨u, g1, g2, g3⟩ := h5 j c hj; ⟨u, g1, g2, g3.ext e1⟩⟩

theorem StR.ref {F : Fr} {A : Nat → Prop} {s s' : AS} {a : Act} {w : World} (h : Ref s s') (hs : StR F A s a w) : StR F A s' a w := by
  obtain ⟨β, τ, ok, hx⟩ := hs
  obtain ⟨e1, _, hm⟩ := ref_mem h hx.mr
  refine ⟨β, τ, ok, hm, hx.defers, hx.size, fun l v hl => ?_, hx.keep, hx.par, hx.parA, fun i c hc => hx.newB i c ((h.box i).symm.trans hc), fun t e sz xs p ht => hx.newT t e sz xs p ((h.tok t).symm.trans ht), hx.ok0, hx.okNew⟩
  have hl' : s' (.tmp l) = .av v := hl
  rcases h (.tmp l) with h1 | ⟨t, b, h1, h2, h3⟩
  · rw [h1] at hl'
    exact (hx.env l v hl').ext e1
  · rw [h3] at hl'
    cases hl'
    exact (show VR _ (.bool b) _ from hx.env l (.sb b) h2)

theorem StR.unref {F : Fr} {A : Nat → Prop} {s s' : AS} {a : Act} {w : World} (h : Ref s s') (hs : StR F A s' a w) : StR F A s a w := by
  obtain ⟨β, τ, ok, hx⟩ := hs
  have hb : ∀ i, s (.box i) = s' (.box i) := fun i => (h.box i).symm
  have ht : ∀ i, s (.tok i) = s' (.tok i) := fun i => (h.tok i).symm
  have e1 : Ext ⟨s', β, τ, A, ok, w⟩ ⟨s, β, τ, A, ok, w⟩ := ⟨fun t e sz xs' hs _ => ⟨xs', (ht t).symm.trans hs, rfl, rfl⟩, fun i cs' hs _ => ⟨⟨cs', (hb i).symm.trans hs⟩, rfl⟩, fun _ h => h, fun _ h => h, fun _ _ _ => rfl⟩
  have hm := hx.mr
  have hb' : ∀ i c, s (.box i) = .box c → s' (.box i) = .box c := fun i c hc => by rw [← hb i]; exact hc
  have ht' : ∀ i e sz xs, s (.tok i) = .tok e sz xs → s' (.tok i) = .tok e sz xs := fun i e sz xs hc => by rw [← ht i]; exact hc
  refine ⟨β, τ, ok, ⟨hm.okLt, fun i c hc => ?_, fun t e sz xs hs => hm.tok t e sz xs (ht' t e sz xs hs), fun i j ci cj hi hj hne => hm.sepB i j ci cj (hb' i ci hi) (hb' j cj hj) hne,
    fun i j ei ej si sj xi xj p q hi hj hp hq hne => hm.sepT i j ei ej si sj xi xj p q (ht' _ _ _ _ hi) (ht' _ _ _ _ hj) hp hq hne, fun i j ci ej sj xj q hi hj hq => hm.sepM i j ci ej sj xj q (hb' i ci hi) (ht' _ _ _ _ hj) hq⟩,
    hx.defers, hx.size, fun l v hl => ?_, hx.keep, hx.par, hx.parA, fun i c hc => hx.newB i c (hb' i c hc), fun t e sz xs p htt => hx.newT t e sz xs p (ht' t e sz xs htt), hx.ok0, hx.okNew⟩
  · obtain ⟨h1, h2, cur, e, h3, h4, h5⟩ := hm.box i c (hb' i c hc)
    exact ⟨h1, h2, cur, e, h3, h4, fun j c hj => let ⟨u, g1, g2, g3⟩ := h5 j c hj; ⟨u, g1, g2, g3.ext e1⟩⟩
  · have hl' : s (.tmp l) = .av v := hl
    rcases h (.tmp l) with h1 | ⟨t, b, h1, h2, h3⟩
    · exact (hx.env l v (h1.trans hl')).ext e1
    · rw [h2] at hl'
      cases hl'
      exact (show VR _ (.sb b) _ from hx.env l (.bool b) h3)

section
variable {P : Program} {T : Tab} {base : Nat} {ops : List Oper} {R W : Nat → List Nat} {md : Region.Mode}

/-- One step, whatever its turn. -/
def Step (P : Program) (T : Tab) (base : Nat) (ops : List Oper) (R W : Nat → List Nat) (i : Nat) (o : Oper) (s : AS) (e : Eff) : Prop :=
  ∃ s', Ref s s' ∧ ((gw ops s' o = some true ∧ Yields P T (base + i) s' o e ∧ (∀ k ∈ refs s' o, k ∈ R i) ∧ tmpFit o.dst e = true ∧ ∀ k ∈ touch e, k ∈ W i) ∨ (gw ops s' o = some false ∧ e = dst o.dst (.tup [])))

def aOp (P : Program) (T : Tab) (base : Nat) (ops : List Oper) (R W : Nat → List Nat) (i : Nat) (K : AS → Prop) (s : AS) : Prop :=
  match ops[i]? with
  | none => K s
  | some o => ∃ e, Step P T base ops R W i o s e ∧ K (s.apply e)

theorem aOp_mono {i : Nat} {s : AS} {K K' : AS → Prop} (h : ∀ s, K s → K' s) (hh : aOp P T base ops R W i K s) : aOp P T base ops R W i K' s := by
  unfold aOp at *
  split
  · rename_i ho; simp only [ho] at hh; exact h _ hh
  · rename_i o ho; simp only [ho] at hh; obtain ⟨e, h1, h2⟩ := hh; exact ⟨e, h1, h _ h2⟩

def aAny (P : Program) (T : Tab) (md : Region.Mode) (base : Nat) (ops : List Oper) (R W : Nat → List Nat) (Q : AS → Prop) : Nat → Array Bool → AS → Prop
  | 0, listed, s => Region.ready md ops.toArray listed = [] ∧ Q s
  | fuel + 1, listed, s => (Region.ready md ops.toArray listed = [] → Q s) ∧
      ∀ i ∈ Region.ready md ops.toArray listed, aOp P T base ops R W i (aAny P T md base ops R W Q fuel (listed.setIfInBounds i true)) s

theorem tmpFit_dst (d : Option Tmp) (v : AV) : tmpFit d (dst d v) = true := by
  cases d with
  | none => rfl
  | some k => simp [dst, tmpFit]

theorem touch_dst (d : Option Tmp) (v : AV) : touch (dst d v) = [] := by cases d <;> rfl

theorem Step.fit {i : Nat} {o : Oper} {s : AS} {e : Eff} (h : Step P T base ops R W i o s e) : tmpFit o.dst e = true ∧ ∀ k ∈ touch e, k ∈ W i := by
  obtain ⟨s', _, h⟩ := h
  rcases h with ⟨_, _, _, h1, h2⟩ | ⟨_, rfl⟩
  · exact ⟨h1, h2⟩
  · exact ⟨tmpFit_dst _ _, by rw [touch_dst]; simp⟩

/-- A step is the same in a state that agrees on what it looks at. -/
theorem Step.local_ (hT : TabOk P T) {i : Nat} {o : Oper} {s s2 : AS} {e : Eff} (htmp : ∀ t ∈ o.looksAt ops.toArray, s2 (.tmp t) = s (.tmp t)) (hid : ∀ k ∈ R i, s2 (.box k) = s (.box k) ∧ s2 (.tok k) = s (.tok k))
    (h : Step P T base ops R W i o s e) : Step P T base ops R W i o s2 e := by
  classical
  obtain ⟨s', href, h⟩ := h
  let s3 : AS := fun l => if s2 l = s l then s' l else s2 l
  have href3 : Ref s2 s3 := fun l => by
    by_cases hl : s2 l = s l
    · have e3 : s3 l = s' l := if_pos hl
      rcases href l with h1 | ⟨t, b, h1, h2, h3⟩
      · exact .inl (by rw [e3, h1, hl])
      · exact .inr ⟨t, b, h1, by rw [hl, h2], by rw [e3, h3]⟩
    · exact .inl (if_neg hl)
  have htmp3 : ∀ t ∈ o.looksAt ops.toArray, s3 (.tmp t) = s' (.tmp t) := fun t ht => if_pos (htmp t ht)
  have hid3 : ∀ k ∈ R i, s3 (.box k) = s' (.box k) ∧ s3 (.tok k) = s' (.tok k) := fun k hk => ⟨if_pos (hid k hk).1, if_pos (hid k hk).2⟩
  have hg : gw ops s3 o = gw ops s' o := by
    unfold gw
    split
    · rfl
    · rename_i j want hgd
      split
      · rfl
      · rename_i t ht
        have : AS.tmp s3 t = AS.tmp s' t := by
          unfold AS.tmp
          rw [htmp3 t (List.mem_append_right _ (by
            unfold gtmp at ht
            split at ht
            · rename_i o' ho'
              simp [hgd, ho', ht]
            · cases ht))]
        rw [this]
  refine ⟨s3, href3, ?_⟩
  rcases h with ⟨h1, h2, h3, h4, h5⟩ | ⟨h1, h2⟩
  · have hv : ∀ x ∈ o.op.operands.toList, s'.val x = s3.val x := fun x hx => by
      cases x with
      | tmp t =>
        show AS.tmp _ t = AS.tmp _ t
        unfold AS.tmp
        rw [htmp3 t (List.mem_append_left _ (List.mem_filterMap.2 ⟨.tmp t, hx, rfl⟩))]
      | const v => rfl
      | global g => rfl
      | func f => rfl
    have ha : AgreeOn (refs s' o) s' s3 := fun k hk => by
      obtain ⟨q1, q2⟩ := hid3 k (h3 k hk)
      exact ⟨q1.symm, q2.symm⟩
    exact .inl ⟨hg.trans h1, yields_local hT hv ha h2, by rw [refs_local hv ha]; exact h3, h4, h5⟩
  · exact .inr ⟨hg.trans h1, h2⟩

theorem Step.back (hT : TabOk P T) {i : Nat} {o : Oper} {s : AS} {e : Eff} {d : Option Tmp} {e' : Eff} (hf : tmpFit d e' = true) (hl : ∀ t, d = some t → t ∉ o.looksAt ops.toArray) (hW : ∀ k ∈ touch e', k ∉ R i)
    (h : Step P T base ops R W i o (s.apply e') e) : Step P T base ops R W i o s e :=
  h.local_ hT (fun t ht => (apply_tmp_out hf (fun hd => hl t hd ht)).symm) (fun k hk => by
    obtain ⟨q1, q2⟩ := apply_id_out (s := s) (e := e') (k := k) (fun ht => hW k ht hk)
    exact ⟨q1.symm, q2.symm⟩)

theorem Step.forth (hT : TabOk P T) {i : Nat} {o : Oper} {s : AS} {e : Eff} {d : Option Tmp} {e' : Eff} (hf : tmpFit d e' = true) (hl : ∀ t, d = some t → t ∉ o.looksAt ops.toArray) (hW : ∀ k ∈ touch e', k ∉ R i)
    (h : Step P T base ops R W i o s e) : Step P T base ops R W i o (s.apply e') e :=
  h.local_ hT (fun t ht => apply_tmp_out hf (fun hd => hl t hd ht)) (fun k hk => apply_id_out (fun ht => hW k ht hk))

/-- What is asked of two operations of which neither waits for the other. -/
def Clear (R W : Nat → List Nat) (i j : Nat) : Prop := (∀ k ∈ W i, k ∉ R j) ∧ (∀ k ∈ W j, k ∉ R i) ∧ ∀ k ∈ W i, k ∉ W j

theorem aOp_swap (hT : TabOk P T) {i j : Nat} {oi oj : Oper} {e : Eff} (hj : ops[j]? = some oj) (hap : oi.apart ops.toArray oj = true) (hc : Clear R W i j) {K : AS → Prop} {s : AS}
    (hy : Step P T base ops R W i oi s e) (h : aOp P T base ops R W j K (s.apply e)) :
    aOp P T base ops R W j (fun s' => Step P T base ops R W i oi s' e ∧ K (s'.apply e)) s := by
  obtain ⟨h1, h2, h3⟩ := Oper.apart_spec hap
  obtain ⟨c1, c2, c3⟩ := hc
  obtain ⟨f1, f2⟩ := hy.fit
  unfold aOp at *
  simp only [hj] at *
  obtain ⟨e', hs, hk⟩ := h
  obtain ⟨g1, g2⟩ := hs.fit
  refine ⟨e', hs.back hT f1 h1 (fun k hk => c1 k (f2 k hk)), hy.forth hT g1 h3 (fun k hk => c2 k (g2 k hk)), ?_⟩
  rw [apply_comm s g1 f1 (fun t ht hd => h2 t hd ht) (fun k hk hk' => c3 k (f2 k hk') (g2 k hk))]
  exact hk

theorem aAny_first (hT : TabOk P T) {Q : AS → Prop} {i : Nat} {oi : Oper} {e : Eff} (hi : ops[i]? = some oi) :
    ∀ (fuel : Nat) (listed : Array Bool) (s : AS),
      (∀ j oj, ops[j]? = some oj → j ≠ i → listed.getD j true = false → (∀ e ∈ oj.after, Region.binds md e = true → e.on ≠ i) → oi.apart ops.toArray oj = true ∧ Clear R W i j) →
      i ∈ Region.ready md ops.toArray listed → Step P T base ops R W i oi s e →
      aAny P T md base ops R W Q fuel (listed.setIfInBounds i true) (s.apply e) → aAny P T md base ops R W Q (fuel + 1) listed s := by
  intro fuel
  have now : ∀ {K : AS → Prop} {s : AS}, Step P T base ops R W i oi s e → K (s.apply e) → aOp P T base ops R W i K s := fun hy h => by
    unfold aOp
    simp only [hi]
    exact ⟨e, hy, h⟩
  induction fuel with
  | zero =>
    intro listed s _ hr hy H
    refine ⟨fun h => (by rw [h] at hr; cases hr), fun j hj => ?_⟩
    by_cases hji : j = i
    · subst hji; exact now hy H
    · have := ready_mono hj hji
      rw [H.1] at this
      cases this
  | succ fuel ih =>
    intro listed s hfree hr hy H
    refine ⟨fun h => (by rw [h] at hr; cases hr), fun j hj => ?_⟩
    by_cases hji : j = i
    · subst hji; exact now hy H
    · have h1 := H.2 j (ready_mono hj hji)
      obtain ⟨hjun, oj, hoj, hall⟩ := mem_ready.1 hj
      have hoj' : ops[j]? = some oj := by simpa using hoj
      have hnot : ∀ e ∈ oj.after, Region.binds md e = true → e.on ≠ i := fun e he hb heq => by
        have h1 := hall e he hb
        have h0 := (mem_ready.1 hr).1
        rw [heq] at h1
        rcases Nat.lt_or_ge i listed.size with h' | h'
        · simp [h'] at h0 h1; rw [h0] at h1; cases h1
        · simp [Array.getElem?_eq_none h'] at h1
      obtain ⟨hap, hcl⟩ := hfree j oj hoj' hji hjun hnot
      have h2 := aOp_swap hT hoj' hap hcl hy h1
      have hfree' : ∀ k ok, ops[k]? = some ok → k ≠ i → (listed.setIfInBounds j true).getD k true = false →
          (∀ e ∈ ok.after, Region.binds md e = true → e.on ≠ i) → oi.apart ops.toArray ok = true ∧ Clear R W i k := fun k ok hk hki hun hno => by
        refine hfree k ok hk hki ?_ hno
        by_cases hjk : j = k
        · subst hjk; exact hjun
        · rw [getD_set_ne true hjk] at hun; exact hun
      refine aOp_mono (fun s' h3 => ih (listed.setIfInBounds j true) s' hfree' (ready_mono hr (Ne.symm hji)) h3.1 ?_) h2
      rw [Array.setIfInBounds_comm _ _ hji]
      exact h3.2

/-- The order of the text. -/
def lexRun (P : Program) (T : Tab) (base : Nat) (ops : List Oper) (R W : Nat → List Nat) (Q : AS → Prop) : Nat → List Oper → AS → Prop
  | _, [], s => Q s
  | i, o :: r, s => ∃ e, Step P T base ops R W i o s e ∧ lexRun P T base ops R W Q (i + 1) r (s.apply e)

theorem aAny_lex (hT : TabOk P T) {Q : AS → Prop} (hpairs : ∀ i j oj, i < j → ops[j]? = some oj → (∀ e ∈ oj.after, Region.binds md e = true → e.on ≠ i) → Clear R W i j) :
    ∀ (l : List Oper) (k : Nat) (listed : Array Bool) (s : AS), (∀ j, l[j]? = ops[k + j]?) → (∀ j, j < k → listed.getD j true = true) → Region.lexFrom md ops.toArray l.length k listed = true →
      lexRun P T base ops R W Q k l s → aAny P T md base ops R W Q l.length listed s
  | [], _, _, _, _, _, hB, h => ⟨by simpa [Region.lexFrom] using hB, h⟩
  | o :: l, k, listed, s, hl, hlist, hB, h => by
    have h0 : ops[k]? = some o := by simpa using (hl 0).symm
    simp only [List.length_cons, Region.lexFrom, Bool.and_eq_true] at hB
    obtain ⟨⟨hr, hf⟩, hB'⟩ := hB
    obtain ⟨e, hy, hK⟩ := h
    have hr' : k ∈ Region.ready md ops.toArray listed := by simpa using hr
    have hks : k < listed.size := by
      have := (mem_ready.1 hr').1
      rcases Nat.lt_or_ge k listed.size with h | h
      · exact h
      · simp [Array.getElem?_eq_none h] at this
    refine aAny_first hT h0 l.length listed s (fun j oj hj hne hun hno => ⟨Region.free_spec (by simpa using h0) hf j oj (by simpa using hj) hne hun hno, hpairs k j oj ?_ hj hno⟩) hr' hy
      (aAny_lex hT hpairs l (k + 1) _ _ (fun j => by have := hl (j + 1); simpa [Nat.add_assoc, Nat.add_comm 1 j] using this) (fun j hj => ?_) hB' hK)
    · rcases Nat.lt_or_ge k j with h1 | h1
      · exact h1
      · have h2 : j < k := by omega
        rw [hlist j h2] at hun
        cases hun
    · by_cases hjk : k = j
      · subst hjk
        simp [hks]
      · rw [getD_set_ne true hjk]
        exact hlist j (by omega)
end


/-! ### Down to the machine -/

def issued (base : Nat) (listed : Array Bool) : Nat → Prop := fun k => k < base ∨ ∃ i, listed.getD i false = true ∧ k = base + i

theorem aAny_sound {F : Fr} {T : Tab} (hT : TabOk F.P T) {base : Nat} {ops : List Oper} {R W : Nat → List Nat} {md : Region.Mode} (hds : dstsOk F.N ops = true) {Q : AS → Prop} {Q' : Exit → Act → World → Prop}
    (hQ : ∀ s a w A, StR F A s a w → (∀ k, A k → k < base + ops.length) → Q s → Q' .normal a w) :
    ∀ (fuel : Nat) (listed : Array Bool) (s : AS) (a : Act) (w : World), StR F (issued base listed) s a w → listed.size = ops.length → aAny F.P T md base ops R W Q fuel listed s → wpAny F.P md ops.toArray Q' fuel listed a w := by
  have hlt : ∀ (listed : Array Bool), listed.size = ops.length → ∀ k, issued base listed k → k < base + ops.length := by
    intro listed hs k hk
    rcases hk with hk | ⟨i, h1, rfl⟩
    · omega
    · have : i < listed.size := by
        rcases Nat.lt_or_ge i listed.size with h | h
        · exact h
        · simp [Array.getElem?_eq_none h] at h1
      omega
  intro fuel
  induction fuel with
  | zero => intro listed s a w hs hsz h; exact ⟨h.1, hQ s a w _ hs (hlt listed hsz) h.2⟩
  | succ fuel ih =>
    intro listed s a w hs hsz h
    refine ⟨fun h0 => hQ s a w _ hs (hlt listed hsz) (h.1 h0), fun i hi => ?_⟩
    have h1 := h.2 i hi
    obtain ⟨hun, o, ho, _⟩ := mem_ready.1 hi
    have ho' : ops[i]? = some o := by simpa using ho
    have hmem : o ∈ ops := List.mem_of_getElem? ho'
    have hd := dstsOk_spec hds hmem
    have hil : i < listed.size := by
      rcases Nat.lt_or_ge i listed.size with h | h
      · exact h
      · simp [Array.getElem?_eq_none h] at hun
    have hiA : ¬ issued base listed (base + i) := by
      rintro (h | ⟨j, hj1, h2⟩)
      · omega
      · have : j = i := by omega
        subst this
        simp [hil] at hun hj1
        rw [hun] at hj1; cases hj1
    have hset : ∀ k, (issued base listed k ∨ k = base + i) → issued base (listed.setIfInBounds i true) k := by
      rintro k ((hk | ⟨j, h1, rfl⟩) | rfl)
      · exact .inl hk
      · exact .inr ⟨j, getD_set_true h1, rfl⟩
      · exact .inr ⟨i, by simp [hil], rfl⟩
    have hsz' : (listed.setIfInBounds i true).size = ops.length := by simpa using hsz
    unfold aOp at h1
    simp only [ho'] at h1
    obtain ⟨e, ⟨s', href, hstep⟩, hk⟩ := h1
    have hs' := hs.ref href
    unfold wpOp
    simp only [ho]
    -- the guard, on both sides
    have hgw : ∀ b, gw ops s' o = some b → Region.wanted o (yielded ops.toArray a.tmps) = b := by
      intro b hb
      unfold gw at hb
      split at hb
      · rename_i hg; cases hb; simp [Region.wanted, hg]
      · rename_i j want hg
        split at hb
        · cases hb
        · rename_i d hgd
          split at hb
          · rename_i b' hb'
            cases hb
            exact wanted_guard hg hgd (hs'.gval d b' hb')
          · split at hb
            · rename_i vs hvs
              cases hb
              obtain ⟨us, hu⟩ := hs'.gtup d vs hvs
              exact wanted_tup hg hgd hu
            · cases hb
    rcases hstep with ⟨g1, g2, _, _, _⟩ | ⟨g1, rfl⟩
    · simp only [hgw true g1, if_true]
      left
      refine yields_ok hT hd g2 a w hs' hiA _ Q' (fun a' w' hs2 => ?_)
      exact ih _ (s.apply e) a' w' ((hs2.unref (href.apply e)).mono hset) hsz' hk
    · simp only [hgw false g1, Bool.false_eq_true, if_false]
      exact ih _ _ _ w (((hs.skip o hd)).mono (fun k hk => hset k (.inl hk))) hsz' hk

end Go.Vc
