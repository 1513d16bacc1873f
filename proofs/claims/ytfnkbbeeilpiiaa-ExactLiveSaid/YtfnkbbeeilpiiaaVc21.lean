/- Vc, part 21: verification conditions of operations, and of regions that run in the order of the text. -/
import Derived.Test.YtfnkbbeeilpiiaaVc20
namespace Go.Vc
open Go.RowKit

/-! ### Values written out -/

def force0 (K : AV → Prop) : AV → Prop
  | .int k n => K (.int k n)
  | .bool true => K (.bool true)
  | .bool false => K (.bool false)
  | .sb b => K (.sb b)
  | .agg cs => K (.agg cs)
  | .tup vs => K (.tup vs)
  | .lst sz f xs => K (.lst sz f xs)
  | .own t => K (.own t)
  | .ptr i j => K (.ptr i j)
  | .rp cs => K (.rp cs)
  | .elt t i j => K (.elt t i j)
  | .fn f => K (.fn f)
  | .nilp => K .nilp
  | .nilS => K .nilS
  | .junk => K .junk

/-- `lst`'s flag may be symbolic: then it is left. -/
theorem force0_eq (K : AV → Prop) (v : AV) : force0 K v = K v := by
  cases v <;> try rfl
  case bool b => cases b <;> rfl

/- THE RECURSIONS THAT HAND ON A CONTINUATION ARE TYPED WITH THE RECURSOR ITSELF: so the kernel and the elaborator unfold them to the same terms. -/

noncomputable def forceL0 (l : List AV) : (List AV → Prop) → Prop :=
  List.rec (motive := fun _ => (List AV → Prop) → Prop) (fun K => K []) (fun c _ ih K => force0 (fun c' => ih fun cs' => K (c' :: cs')) c) l

theorem forceL0_eq : ∀ (cs : List AV) (K : List AV → Prop), forceL0 cs K = K cs
  | [], _ => rfl
  | c :: cs, K => by
    show force0 (fun c' => forceL0 cs fun cs' => K (c' :: cs')) c = _
    simp only [force0_eq]
    exact forceL0_eq cs _

noncomputable def force1 (K : AV → Prop) : AV → Prop
  | .agg cs => forceL0 cs fun cs' => K (.agg cs')
  | .rp cs => forceL0 cs fun cs' => K (.rp cs')
  | v => force0 K v

theorem force1_eq (K : AV → Prop) (v : AV) : force1 K v = K v := by
  cases v <;> simp only [force1, forceL0_eq, force0_eq]

noncomputable def forceL1 (l : List AV) : (List AV → Prop) → Prop :=
  List.rec (motive := fun _ => (List AV → Prop) → Prop) (fun K => K []) (fun c _ ih K => force1 (fun c' => ih fun cs' => K (c' :: cs')) c) l

theorem forceL1_eq : ∀ (cs : List AV) (K : List AV → Prop), forceL1 cs K = K cs
  | [], _ => rfl
  | c :: cs, K => by
    show force1 (fun c' => forceL1 cs fun cs' => K (c' :: cs')) c = _
    simp only [force1_eq]
    exact forceL1_eq cs _

noncomputable def force (K : AV → Prop) : AV → Prop
  | .tup vs => forceL1 vs fun vs' => K (.tup vs')
  | v => force1 K v

theorem force_eq (K : AV → Prop) (v : AV) : force K v = K v := by
  cases v <;> simp only [force, forceL1_eq, force1_eq]

/-- One row of an effect, written out. -/
noncomputable def forceRow (l : Loc) (c : Cont) (K : Loc × Cont → Prop) : Prop := match c with
  | .av v => force (fun v' => K (l, .av v')) v
  | .box cs => forceL0 cs fun cs' => K (l, .box cs')
  | .tok t sz xs => K (l, .tok t sz xs)
  | .none => K (l, .none)

/-- The rows of an effect are written out and laid on the state. -/
noncomputable def forceSt (e : Eff) : St → (St → Prop) → Prop :=
  List.rec (motive := fun _ => St → (St → Prop) → Prop) (fun st K => K st) (fun p _ ih st K => match p with
    | (l, c) => forceRow l c fun p' => ih st fun st' => K (p' :: st')) e

theorem forceSt_eq : ∀ (e : Eff) (st : St) (K : St → Prop), forceSt e st K = K (e ++ st)
  | [], _, _ => rfl
  | (l, c) :: e, st, K => by
    show forceRow l c (fun p' => forceSt e st fun st' => K (p' :: st')) = _
    cases c <;> simp only [forceRow, force_eq, forceL0_eq] <;> exact forceSt_eq e st _

theorem get_append : ∀ (e : Eff) (st : St), St.get (e ++ st) = AS.apply (St.get st) e
  | [], _ => rfl
  | (l, c) :: e, st => by
    funext m
    show (match Loc.beq m l with | true => c | false => St.get (e ++ st) m) = _
    rw [get_append e st]
    rfl

/-! ### One operation -/

def OpHolds (P : Program) (T : Tab) (id : Nat) (s : AS) (o : Oper) (K : Eff → Prop) : Prop :=
  match opSem T id s o with
  | .bad => False
  | .ok e => K e
  | .side p e => p ∧ K e
  | .elem xs i f => ∃ c, (0 ≤ i ∧ xs[i.toNat]? = some c) ∧ K (f c)
  | .call f args d => match callSem s args with
    | .bad => False
    | .go as ids bx ka kb => ∃ r bx', Contract P f as bx r bx' ∧ (callOk ids r bx' = true ∧ K (callEff id d ids ka kb r bx'))

def Yields (P : Program) (T : Tab) (id : Nat) (s : AS) (o : Oper) (e : Eff) : Prop := OpHolds P T id s o (fun e' => e' = e)

theorem opHolds_yields {P : Program} {T : Tab} {id : Nat} {s : AS} {o : Oper} {K : Eff → Prop} (h : OpHolds P T id s o K) : ∃ e, Yields P T id s o e ∧ K e := by
  unfold OpHolds at h
  unfold Yields OpHolds
  split at h
  · exact h.elim
  · exact ⟨_, rfl, h⟩
  · exact ⟨_, ⟨h.1, rfl⟩, h.2⟩
  · obtain ⟨c, h1, h2⟩ := h; exact ⟨_, ⟨c, h1, rfl⟩, h2⟩
  · split at h
    · exact h.elim
    · obtain ⟨r, bx', h1, h2, h3⟩ := h
      exact ⟨_, ⟨r, bx', h1, h2, rfl⟩, h3⟩

theorem yields_ok {F : Fr} {A : Nat → Prop} {T : Tab} (hT : TabOk F.P T) {id : Nat} {s : AS} {o : Oper} (hd : ∀ k, o.dst = some k → k < F.N) {e : Eff} (h : Yields F.P T id s o e) : OpOk F A id o s e := by
  have hs := op_sound (F := F) (A := A) (id := id) (o := o) (s := s) hT hd
  unfold Yields OpHolds at h
  generalize opSem T id s o = res at h hs
  cases res with
  | bad => exact h.elim
  | ok e' => cases h; exact hs
  | side p e' => obtain ⟨h1, h2⟩ := h; subst h2; exact hs h1
  | elem xs i f => obtain ⟨c, ⟨h1, h2⟩, h3⟩ := h; subst h3; exact hs c h1 h2
  | call f args d =>
    obtain ⟨fop, as, ts, h1, h2, rfl, rfl⟩ := hs
    simp only at h
    split at h
    · exact h.elim
    · rename_i as' ids bx ka kb hc
      obtain ⟨r, bx', h3, h4, rfl⟩ := h
      exact ok_call hd fop as ts h1 f h2 as' ids bx ka kb hc r bx' h3 h4

/-- A call is what the text calls a call. -/
theorem opSem_call_args {P : Program} {T : Tab} (hT : TabOk P T) {id : Nat} {s : AS} {o : Oper} {f : FuncId} {args : List AV} {d : Option Tmp} (h : opSem T id s o = .call f args d) :
    ∃ fop as ts, o.op = .call { callee := .value fop, args := as, argTypes := ts } ∧ args = as.toList.map s.val := by
  have hs := op_sound (F := ⟨P, o.dst.getD 0 + 1, default, fun _ => False, fun _ => 0, 0⟩) (A := fun _ => False) (id := id) (o := o) (s := s) hT (fun k hk => by simp [hk])
  rw [h] at hs
  obtain ⟨fop, as, ts, h1, _, h2, _⟩ := hs
  exact ⟨fop, as, ts, h1, h2⟩

theorem yields_local {P : Program} {T : Tab} (hT : TabOk P T) {id : Nat} {s s' : AS} {o : Oper} {e : Eff} (hv : ∀ x ∈ o.op.operands.toList, s.val x = s'.val x) (ha : AgreeOn (refs s o) s s') (h : Yields P T id s o e) : Yields P T id s' o e := by
  unfold Yields OpHolds at *
  rw [← opSem_local T id o hv ha]
  cases hres : opSem T id s o with
  | call f args d =>
    rw [hres] at h
    simp only at h ⊢
    have hargs : AgreeOn (args.flatMap ids) s s' ∧ AgreeOn (args.flatMap (boxIds s)) s s' := by
      have hop : ∃ fop as ts, o.op = .call { callee := .value fop, args := as, argTypes := ts } ∧ args = as.toList.map s.val := by
        exact opSem_call_args hT hres
      obtain ⟨fop, as, ts, ho, rfl⟩ := hop
      have hmem : ∀ x ∈ as.toList, x ∈ o.op.operands.toList := fun x hx => by rw [ho]; simp [Op.operands, Call.operands]; exact .inr (by simpa using hx)
      constructor
      · intro i hi
        obtain ⟨v, hv1, hv2⟩ := List.mem_flatMap.1 hi
        obtain ⟨x, hx1, rfl⟩ := List.mem_map.1 hv1
        exact ha i (refs_ids (hmem x hx1) i hv2)
      · intro i hi
        obtain ⟨v, hv1, hv2⟩ := List.mem_flatMap.1 hi
        obtain ⟨x, hx1, rfl⟩ := List.mem_map.1 hv1
        exact ha i (refs_boxIds (hmem x hx1) i hv2)
    rw [← callSem_local args hargs.1 hargs.2]
    exact h
  | bad => rw [hres] at h; exact h
  | ok e' => rw [hres] at h; exact h
  | side p e' => rw [hres] at h; exact h
  | elem xs i f => rw [hres] at h; exact h


/-! ### Regions in the order of the text -/

def gtmp (ops : List Oper) (j : Nat) : Option Tmp := match ops[j]? with
  | some o => o.dst
  | none => none

/-- One operation of a region, and what follows. -/
noncomputable def vcOne (P : Program) (T : Tab) (base : Nat) (ops : List Oper) (ih : Nat → St → (St → Prop) → Prop) (o : Oper) (i : Nat) (st : St) (K : St → Prop) : Prop :=
  match o.guard with
  | none => OpHolds P T (base + i) (St.get st) o fun e => forceSt e st fun st' => ih (i + 1) st' K
  | some (j, want) => match gtmp ops j with
    | none => False
    | some d => match AS.tmp (St.get st) d with
      | .bool b => match Bool.xor b want with
        | false => OpHolds P T (base + i) (St.get st) o fun e => forceSt e st fun st' => ih (i + 1) st' K
        | true => forceSt (dst o.dst (.tup [])) st fun st' => ih (i + 1) st' K
      | .sb b => (b = want → OpHolds P T (base + i) (St.get ((.tmp d, .av (.bool want)) :: st)) o fun e => forceSt e ((.tmp d, .av (.bool want)) :: st) fun st' => ih (i + 1) st' K) ∧
          (b = (!want) → forceSt (dst o.dst (.tup [])) ((.tmp d, .av (.bool (!want))) :: st) fun st' => ih (i + 1) st' K)
      | .tup _ => forceSt (dst o.dst (.tup [])) st fun st' => ih (i + 1) st' K
      | _ => False

noncomputable def vcOps (P : Program) (T : Tab) (base : Nat) (ops : List Oper) (i : Nat) (l : List Oper) (st : St) (K : St → Prop) : Prop :=
  List.rec (motive := fun _ => Nat → St → (St → Prop) → Prop) (fun _ st K => K st) (fun o _ ih i st K => vcOne P T base ops ih o i st K) l i st K

def dstsOk (N : Nat) (ops : List Oper) : Bool := ops.all fun o => match o.dst with
  | some d => Nat.blt d N
  | none => true

theorem dstsOk_spec {N : Nat} {ops : List Oper} (h : dstsOk N ops = true) {o : Oper} (ho : o ∈ ops) : ∀ k, o.dst = some k → k < N := by
  intro k hk
  have := List.all_eq_true.1 h o ho
  rw [hk] at this
  exact blt_lt this

/-- A boolean is known better: its literal may be laid. -/
theorem StR.lit {F : Fr} {A : Nat → Prop} {st : St} {a : Act} {w : World} (h : StR F A (St.get st) a w) (d : Nat) (b : Bool) (hd : AS.tmp (St.get st) d = .sb b) : StR F A (St.get ((.tmp d, .av (.bool b)) :: st)) a w := by
  obtain ⟨β, τ, ok, hx⟩ := h
  have hd' : St.get st (.tmp d) = .av (.sb b) := by
    unfold AS.tmp at hd
    split at hd
    · rename_i v hv; rw [hv, hd]
    · cases hd
  have hv := hx.env d _ hd'
  have e : St.get ((.tmp d, .av (.bool b)) :: st) = AS.put (St.get st) (.tmp d) (.av (.bool b)) := rfl
  rw [e]
  have hm := hx.mr.tmp d (.av (.bool b))
  refine ⟨β, τ, ok, hm, hx.defers, hx.size, fun l v hl => ?_, hx.keep, hx.par, hx.parA, hx.newB, hx.newT, hx.ok0, hx.okNew⟩
  have hl0 : AS.put (St.get st) (.tmp d) (.av (.bool b)) (.tmp l) = .av v := hl
  by_cases hld : l = d
  · subst hld
    rw [put_tmp_same] at hl0
    cases hl0
    exact hv
  · rw [put_tmp_ne _ _ _ _ hld] at hl0
    exact (hx.env l v hl0).ext (Ext.tmp _ d _)

theorem StR.gval {F : Fr} {A : Nat → Prop} {st : AS} {a : Act} {w : World} (h : StR F A st a w) (d : Nat) (b : Bool) (hd : boolOf (AS.tmp st d) = some b) : a.tmps[d]? = some (.bool b) := by
  obtain ⟨β, τ, ok, hx⟩ := h
  have hv : a.tmps.getD d undef = .bool b := by
    have h1 := hx.val (.tmp d)
    exact boolOf_vr (m := ⟨st, β, τ, A, ok, w⟩) hd h1
  rw [Array.getD_eq_getD_getElem?] at hv
  cases hq : a.tmps[d]? with
  | none => rw [hq] at hv; simp [undef] at hv
  | some v => rw [hq] at hv; simp at hv; rw [hv]

theorem StR.skip {F : Fr} {A : Nat → Prop} {s : AS} {a : Act} {w : World} (h : StR F A s a w) (o : Oper) (hd : ∀ k, o.dst = some k → k < F.N) : StR F A (s.apply (dst o.dst (.tup []))) (a.put o.dst undef) w := by
  obtain ⟨β, τ, ok, hx⟩ := h
  exact ⟨_, _, _, hx.dst o.dst (.tup []) undef hd ⟨#[], rfl, rfl, by simp⟩⟩

theorem StR.mono {F : Fr} {A A' : Nat → Prop} {s : AS} {a : Act} {w : World} (h : StR F A s a w) (hA : ∀ i, A i → A' i) : StR F A' s a w := by
  obtain ⟨β, τ, ok, hx⟩ := h
  exact ⟨_, _, _, hx.mono A' hA⟩

theorem wanted_guard {ops : List Oper} {o : Oper} {a : Act} {j : Nat} {want b : Bool} {d : Tmp} (hg : o.guard = some (j, want)) (hd : gtmp ops j = some d) (hv : a.tmps[d]? = some (.bool b)) :
    Region.wanted o (yielded ops.toArray a.tmps) = (b == want) := by
  unfold gtmp at hd
  split at hd
  · rename_i o' ho'
    simp [Region.wanted, hg, yielded, ho', hd, hv]
  · cases hd

theorem StR.gtup {F : Fr} {A : Nat → Prop} {st : AS} {a : Act} {w : World} (h : StR F A st a w) (d : Nat) (vs : List AV) (hd : AS.tmp st d = .tup vs) : ∃ us, a.tmps.getD d undef = .tuple us := by
  obtain ⟨β, τ, ok, hx⟩ := h
  have h1 := hx.val (.tmp d)
  rw [show AS.val _ (.tmp d) = .tup vs from hd] at h1
  obtain ⟨us, h2, _⟩ := h1
  exact ⟨us, h2⟩

theorem wanted_tup {ops : List Oper} {o : Oper} {a : Act} {j : Nat} {want : Bool} {d : Tmp} {us : Array Value} (hg : o.guard = some (j, want)) (hd : gtmp ops j = some d) (hv : a.tmps.getD d undef = .tuple us) :
    Region.wanted o (yielded ops.toArray a.tmps) = false := by
  unfold gtmp at hd
  split at hd
  · rename_i o' ho'
    rw [Array.getD_eq_getD_getElem?] at hv
    cases hq : a.tmps[d]? with
    | none => simp [Region.wanted, hg, yielded, ho', hd, hq]
    | some v =>
      rw [hq] at hv
      simp at hv
      subst hv
      simp [Region.wanted, hg, yielded, ho', hd, hq]
  · cases hd

theorem vcOps_sound {F : Fr} {T : Tab} (hT : TabOk F.P T) (base : Nat) (ops : List Oper) (hds : dstsOk F.N ops = true) (Q : Exit → Act → World → Prop) (K : St → Prop)
    (hQ : ∀ st a w, StR F (fun k => k < base + ops.length) (St.get st) a w → K st → Q .normal a w) :
    ∀ (l : List Oper) (i : Nat) (st : St) (a : Act) (w : World), (∀ j, l[j]? = ops[i + j]?) → i + l.length = ops.length → StR F (fun k => k < base + i) (St.get st) a w → vcOps F.P T base ops i l st K →
      wpOps F.P ops.toArray Q (List.range' i l.length) a w
  | [], i, st, a, w, _, hl, hst, h => by
    have hi : i = ops.length := by simpa using hl
    subst hi
    exact hQ st a w hst h
  | o :: r, i, st, a, w, hj, hl, hst, h => by
    have ho : ops[i]? = some o := by simpa using (hj 0).symm
    have hmem : o ∈ ops := List.mem_of_getElem? ho
    have hd := dstsOk_spec hds hmem
    have hj' : ∀ j, r[j]? = ops[i + 1 + j]? := fun j => by have := hj (j + 1); simpa [Nat.add_assoc, Nat.add_comm 1 j] using this
    have hl' : i + 1 + r.length = ops.length := by simp at hl; omega
    have hA : ¬ (base + i < base + i) := by omega
    -- it runs
    have run : ∀ st, StR F (fun k => k < base + i) (St.get st) a w → Region.wanted o (yielded ops.toArray a.tmps) = true →
        (OpHolds F.P T (base + i) (St.get st) o fun e => forceSt e st fun st' => vcOps F.P T base ops (i + 1) r st' K) → wpOps F.P ops.toArray Q (List.range' i (o :: r).length) a w := by
      intro st hst hw h
      obtain ⟨e, hy, hk⟩ := opHolds_yields h
      rw [forceSt_eq] at hk
      rw [List.length_cons, List.range'_succ]
      simp only [wpOps, List.getElem?_toArray, ho, hw, if_true]
      left
      refine yields_ok hT hd hy a w hst hA _ Q (fun a' w' hs' => ?_)
      refine vcOps_sound hT base ops hds Q K hQ r (i + 1) (e ++ st) a' w' hj' hl' ?_ hk
      rw [get_append]
      exact hs'.mono (fun k hk => by rcases hk with hk | hk <;> omega)
    -- it is passed over
    have pass : ∀ st, StR F (fun k => k < base + i) (St.get st) a w → Region.wanted o (yielded ops.toArray a.tmps) = false →
        (forceSt (dst o.dst (.tup [])) st fun st' => vcOps F.P T base ops (i + 1) r st' K) → wpOps F.P ops.toArray Q (List.range' i (o :: r).length) a w := by
      intro st hst hw h
      rw [forceSt_eq] at h
      rw [List.length_cons, List.range'_succ]
      simp only [wpOps, List.getElem?_toArray, ho, hw, Bool.false_eq_true, if_false]
      refine vcOps_sound hT base ops hds Q K hQ r (i + 1) _ _ w hj' hl' ?_ h
      rw [get_append]
      exact (hst.skip o hd).mono (fun k hk => by omega)
    change vcOne F.P T base ops (fun i st K => vcOps F.P T base ops i r st K) o i st K at h
    unfold vcOne at h
    split at h
    · rename_i hg
      exact run st hst (by simp [Region.wanted, hg]) h
    · rename_i j want hg
      split at h
      · exact h.elim
      · rename_i d hgd
        split at h
        · rename_i b hb
          have hw := wanted_guard hg hgd (hst.gval d b (by rw [hb]; rfl))
          split at h
          · rename_i hx
            exact run st hst (by rw [hw]; cases b <;> cases want <;> simp_all) h
          · rename_i hx
            exact pass st hst (by rw [hw]; cases b <;> cases want <;> simp_all) h
        · rename_i b hb
          have hw := wanted_guard hg hgd (hst.gval d b (by rw [hb]; rfl))
          by_cases hbw : b = want
          · have h1 := h.1 hbw
            subst hbw
            exact run _ (hst.lit d b hb) (by rw [hw]; simp) h1
          · have hbn : b = !want := by cases b <;> cases want <;> simp_all
            have h1 := h.2 hbn
            rw [hbn] at hb
            exact pass _ (hst.lit d (!want) hb) (by rw [hw, hbn]; simp) h1
        · rename_i vs hb
          obtain ⟨us, hu⟩ := hst.gtup d vs hb
          exact pass st hst (wanted_tup hg hgd hu) h
        · exact h.elim

end Go.Vc
