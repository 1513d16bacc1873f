/- Vc, part 23: verification conditions of regions whose order is drawn. -/
import Derived.Test.YtfnkbbeeilpiiaaVc22
namespace Go.Vc
open Go.RowKit

def memN (k : Nat) (l : List Nat) : Bool := l.any (Nat.beq k)
def disj (a b : List Nat) : Bool := a.all fun k => !memN k b

theorem disj_spec {a b : List Nat} (h : disj a b = true) : ∀ k ∈ a, k ∉ b := by
  intro k hk hb
  have h1 := List.all_eq_true.1 h k hk
  have : memN k b = true := List.any_eq_true.2 ⟨k, hb, Nat.beq_refl k⟩
  rw [this] at h1
  cases h1

/-- The operands, in a form that is read off by unfolding. -/
def opList : Op → List Operand
  | .slice _ x l h m => x :: (l.toList ++ (h.toList ++ m.toList))
  | .call c => (match c.callee with
    | .value f => [f]
    | .invoke r _ => [r]
    | .builtin _ => []) ++ c.args.toList
  | o => o.operands.toList

theorem opList_eq (o : Op) : opList o = o.operands.toList := by
  cases o <;> try rfl
  case slice t x l h m => cases l <;> cases h <;> cases m <;> simp [opList, Op.operands]
  case call c =>
    obtain ⟨f, as, ts⟩ := c
    cases f <;> simp [opList, Op.operands, Call.operands]

def refsL (s : AS) (o : Oper) : List Nat := (opList o.op).flatMap fun x => ids (s.val x) ++ boxIds s (s.val x)

theorem refsL_eq : refsL = refs := by
  funext s o
  simp only [refsL, refs, opList_eq]

/-- Foot prints of the operations before: (place, read, written). -/
abbrev Fps := List (Nat × List Nat × List Nat)

def clearAll (o : Oper) (r w : List Nat) : Fps → Bool
  | [] => true
  | (k, r', w') :: l => ((disj w' r && (disj w r' && disj w' w)) || o.after.toList.any (fun e => Region.binds .any e && Nat.beq e.on k)) && clearAll o r w l

theorem clearAll_spec {o : Oper} {r w : List Nat} : ∀ {l : Fps}, clearAll o r w l = true → ∀ k r' w', (k, r', w') ∈ l → (∀ e ∈ o.after, Region.binds .any e = true → e.on ≠ k) →
    (∀ x ∈ w', x ∉ r) ∧ (∀ x ∈ w, x ∉ r') ∧ ∀ x ∈ w', x ∉ w
  | (k0, r0, w0) :: l, h, k, r', w', hm, hno => by
    simp only [clearAll, Bool.and_eq_true, Bool.or_eq_true] at h
    rcases List.mem_cons.1 hm with hm | hm
    · cases hm
      rcases h.1.symm with h1 | h1
      · exfalso
        obtain ⟨e, h2, h3⟩ := List.any_eq_true.1 h1
        have h2 : e ∈ o.after := by simpa using h2
        simp only [Bool.and_eq_true] at h3
        exact hno e h2 h3.1 (Nat.eq_of_beq_eq_true h3.2)
      · exact ⟨disj_spec h1.1, disj_spec h1.2.1, disj_spec h1.2.2⟩
    · exact clearAll_spec h.2 k r' w' hm hno

/-- A list of numbers, its spine written out. -/
noncomputable def forceN (l : List Nat) : (List Nat → Prop) → Prop :=
  List.rec (motive := fun _ => (List Nat → Prop) → Prop) (fun K => K []) (fun a _ ih K => ih fun r' => K (a :: r')) l

theorem forceN_eq : ∀ (l : List Nat) (K : List Nat → Prop), forceN l K = K l
  | [], _ => rfl
  | a :: r, K => by
    show forceN r (fun r' => K (a :: r')) = _
    exact forceN_eq r _

noncomputable def vcDrawOne (P : Program) (T : Tab) (base : Nat) (ops : List Oper) (ih : Nat → Fps → St → (St → Prop) → Prop) (o : Oper) (i : Nat) (fp : Fps) (st : St) (K : St → Prop) : Prop :=
  match o.guard with
  | none => OpHolds P T (base + i) (St.get st) o fun e => forceN (refsL (St.get st) o) fun fr => forceN (touch e) fun fw => match tmpFit o.dst e && clearAll o fr fw fp with
    | true => forceSt e st fun st' => ih (i + 1) ((i, fr, fw) :: fp) st' K
    | false => False
  | some (j, want) => match gtmp ops j with
    | none => False
    | some d => match AS.tmp (St.get st) d with
      | .bool b => match Bool.xor b want with
        | false => OpHolds P T (base + i) (St.get st) o fun e => forceN (refsL (St.get st) o) fun fr => forceN (touch e) fun fw => match tmpFit o.dst e && clearAll o fr fw fp with
          | true => forceSt e st fun st' => ih (i + 1) ((i, fr, fw) :: fp) st' K
          | false => False
        | true => forceSt (dst o.dst (.tup [])) st fun st' => ih (i + 1) fp st' K
      | .sb b => (b = want → OpHolds P T (base + i) (St.get ((.tmp d, .av (.bool want)) :: st)) o fun e => forceN (refsL (St.get ((.tmp d, .av (.bool want)) :: st)) o) fun fr => forceN (touch e) fun fw => match tmpFit o.dst e && clearAll o fr fw fp with
            | true => forceSt e ((.tmp d, .av (.bool want)) :: st) fun st' => ih (i + 1) ((i, fr, fw) :: fp) st' K
            | false => False) ∧
          (b = (!want) → forceSt (dst o.dst (.tup [])) ((.tmp d, .av (.bool (!want))) :: st) fun st' => ih (i + 1) fp st' K)
      | .tup _ => forceSt (dst o.dst (.tup [])) st fun st' => ih (i + 1) fp st' K
      | _ => False

noncomputable def vcDraw (P : Program) (T : Tab) (base : Nat) (ops : List Oper) (i : Nat) (l : List Oper) (fp : Fps) (st : St) (K : St → Prop) : Prop :=
  List.rec (motive := fun _ => Nat → Fps → St → (St → Prop) → Prop) (fun _ _ st K => K st) (fun o _ ih i fp st K => vcDrawOne P T base ops ih o i fp st K) l i fp st K

theorem Ref.trans {s s' s'' : AS} (h : Ref s s') (h' : Ref s' s'') : Ref s s'' := fun l => by
  rcases h' l with h1 | ⟨t, b, h1, h2, h3⟩
  · rw [h1]; exact h l
  · rcases h l with g1 | ⟨t', b', g1, g2, g3⟩
    · exact .inr ⟨t, b, h1, by rw [← g1, h2], h3⟩
    · rw [h2] at g3; cases g3

theorem Ref.lit {st : St} {d : Nat} {b : Bool} (hd : AS.tmp (St.get st) d = .sb b) : Ref (St.get st) (St.get ((.tmp d, .av (.bool b)) :: st)) := fun l => by
  have hd' : St.get st (.tmp d) = .av (.sb b) := by
    unfold AS.tmp at hd
    split at hd
    · rename_i v hv; rw [hv, hd]
    · cases hd
  have e : St.get ((.tmp d, .av (.bool b)) :: st) = AS.put (St.get st) (.tmp d) (.av (.bool b)) := rfl
  rw [e]
  cases l with
  | tmp t =>
    by_cases ht : t = d
    · subst ht
      exact .inr ⟨t, b, rfl, hd', put_tmp_same _ _ _⟩
    · exact .inl (put_tmp_ne _ _ _ _ ht)
  | box i => exact .inl rfl
  | tok i => exact .inl rfl

/-- The foot prints stand in the two families; places that are not named have none. -/
def Covers (fp : Fps) (i : Nat) (R W : Nat → List Nat) : Prop := ∀ k, k < i → (∃ r w, (k, r, w) ∈ fp ∧ R k = r ∧ W k = w) ∨ (R k = [] ∧ W k = [])

theorem vcDraw_lex {P : Program} {T : Tab} {base : Nat} {ops : List Oper} {K : St → Prop} :
    ∀ (l : List Oper) (i : Nat) (fp : Fps) (st : St) (s : AS) (R0 W0 : Nat → List Nat), (∀ j, l[j]? = ops[i + j]?) → Ref s (St.get st) → Covers fp i R0 W0 → vcDraw P T base ops i l fp st K →
      ∃ R W : Nat → List Nat, (∀ k, k < i → R k = R0 k ∧ W k = W0 k) ∧ lexRun P T base ops R W (fun s => ∃ st, Ref s (St.get st) ∧ K st) i l s ∧
        ∀ k j oj, k < j → i ≤ j → ops[j]? = some oj → (∀ e ∈ oj.after, Region.binds .any e = true → e.on ≠ k) → Clear R W k j
  | [], i, fp, st, s, R0, W0, hl, href, _, h => by
    refine ⟨R0, W0, fun _ _ => ⟨rfl, rfl⟩, ⟨st, href, h⟩, fun k j oj _ hij hj => ?_⟩
    have := hl (j - i)
    rw [show i + (j - i) = j by omega, hj] at this
    simp at this
  | o :: l, i, fp, st, s, R0, W0, hl, href, hcov, h => by
    have ho : ops[i]? = some o := by simpa using (hl 0).symm
    have hl' : ∀ j, l[j]? = ops[i + 1 + j]? := fun j => by have := hl (j + 1); simpa [Nat.add_assoc, Nat.add_comm 1 j] using this
    -- it runs
    have run : ∀ st, Ref s (St.get st) → gw ops (St.get st) o = some true →
        (OpHolds P T (base + i) (St.get st) o fun e => match tmpFit o.dst e && clearAll o (refs (St.get st) o) (touch e) fp with
            | true => forceSt e st fun st' => vcDraw P T base ops (i + 1) l ((i, refs (St.get st) o, touch e) :: fp) st' K
            | false => False) →
        ∃ R W : Nat → List Nat, (∀ k, k < i → R k = R0 k ∧ W k = W0 k) ∧ lexRun P T base ops R W (fun s => ∃ st, Ref s (St.get st) ∧ K st) i (o :: l) s ∧
          ∀ k j oj, k < j → i ≤ j → ops[j]? = some oj → (∀ e ∈ oj.after, Region.binds .any e = true → e.on ≠ k) → Clear R W k j := by
      intro st href hgw h
      obtain ⟨e, hy, hk⟩ := opHolds_yields h
      split at hk
      · rename_i hb
        simp only [Bool.and_eq_true] at hb
        rw [forceSt_eq] at hk
        obtain ⟨R, W, h1, h2, h3⟩ := vcDraw_lex l (i + 1) _ (e ++ st) (s.apply e) (upd R0 i (refs (St.get st) o)) (upd W0 i (touch e)) hl' (by rw [get_append]; exact href.apply e) (fun k hk => by
          by_cases hki : k = i
          · subst hki; exact .inl ⟨_, _, List.mem_cons_self .., upd_same _ _ _, upd_same _ _ _⟩
          · rw [upd_ne _ _ hki, upd_ne _ _ hki]
            rcases hcov k (by omega) with ⟨r, w, g1, g2, g3⟩ | g
            · exact .inl ⟨r, w, List.mem_cons_of_mem _ g1, g2, g3⟩
            · exact .inr g) hk
        have hRi : R i = refs (St.get st) o ∧ W i = touch e := by
          obtain ⟨g1, g2⟩ := h1 i (by omega)
          rw [upd_same] at g1 g2
          exact ⟨g1, g2⟩
        have hRk : ∀ k, k < i → R k = R0 k ∧ W k = W0 k := fun k hk => by
          obtain ⟨g1, g2⟩ := h1 k (by omega)
          rw [upd_ne _ _ (by omega)] at g1 g2
          exact ⟨g1, g2⟩
        refine ⟨R, W, hRk, ⟨e, ⟨St.get st, href, .inl ⟨hgw, hy, by rw [hRi.1]; exact fun _ h => h, hb.1, by rw [hRi.2]; exact fun _ h => h⟩⟩, h2⟩, fun k j oj hkj hij hj hno => ?_⟩
        by_cases hji : j = i
        · subst hji
          rw [ho] at hj; cases hj
          unfold Clear
          rw [(hRk k hkj).1, (hRk k hkj).2, hRi.1, hRi.2]
          rcases hcov k hkj with ⟨r, w, g1, g2, g3⟩ | ⟨g2, g3⟩
          · rw [g2, g3]; exact clearAll_spec hb.2 k r w g1 hno
          · rw [g2, g3]; simp
        · exact h3 k j oj hkj (by omega) hj hno
      · exact hk.elim
    -- it is passed over
    have pass : ∀ st, Ref s (St.get st) → gw ops (St.get st) o = some false →
        (forceSt (dst o.dst (.tup [])) st fun st' => vcDraw P T base ops (i + 1) l fp st' K) →
        ∃ R W : Nat → List Nat, (∀ k, k < i → R k = R0 k ∧ W k = W0 k) ∧ lexRun P T base ops R W (fun s => ∃ st, Ref s (St.get st) ∧ K st) i (o :: l) s ∧
          ∀ k j oj, k < j → i ≤ j → ops[j]? = some oj → (∀ e ∈ oj.after, Region.binds .any e = true → e.on ≠ k) → Clear R W k j := by
      intro st href hgw h
      rw [forceSt_eq] at h
      obtain ⟨R, W, h1, h2, h3⟩ := vcDraw_lex l (i + 1) fp _ (s.apply (dst o.dst (.tup []))) (upd R0 i []) (upd W0 i []) hl' (by rw [get_append]; exact href.apply _) (fun k hk => by
          by_cases hki : k = i
          · subst hki; exact .inr ⟨upd_same _ _ _, upd_same _ _ _⟩
          · rw [upd_ne _ _ hki, upd_ne _ _ hki]
            exact hcov k (by omega)) h
      have hRi : R i = [] ∧ W i = [] := by
        obtain ⟨g1, g2⟩ := h1 i (by omega)
        rw [upd_same] at g1 g2
        exact ⟨g1, g2⟩
      have hRk : ∀ k, k < i → R k = R0 k ∧ W k = W0 k := fun k hk => by
        obtain ⟨g1, g2⟩ := h1 k (by omega)
        rw [upd_ne _ _ (by omega)] at g1 g2
        exact ⟨g1, g2⟩
      refine ⟨R, W, hRk, ⟨_, ⟨St.get st, href, .inr ⟨hgw, rfl⟩⟩, h2⟩, fun k j oj hkj hij hj hno => ?_⟩
      by_cases hji : j = i
      · subst hji
        unfold Clear
        rw [hRi.1, hRi.2]
        simp
      · exact h3 k j oj hkj (by omega) hj hno
    have gws : ∀ (st : St) (j : Nat) (want b : Bool) (d : Tmp), o.guard = some (j, want) → gtmp ops j = some d → AS.tmp (St.get st) d = .bool b → gw ops (St.get st) o = some (b == want) := by
      intro st j want b d h1 h2 h3
      simp only [gw, h1, h2, h3, boolOf]
    change vcDrawOne P T base ops (fun i fp st K => vcDraw P T base ops i l fp st K) o i fp st K at h
    unfold vcDrawOne at h
    simp only [refsL_eq, forceN_eq] at h
    split at h
    · rename_i hg
      exact run st href (by simp [gw, hg]) h
    · rename_i j want hg
      split at h
      · exact h.elim
      · rename_i d hgd
        split at h
        · rename_i b hb
          have hw := gws st j want b d hg hgd hb
          split at h
          · rename_i hx
            exact run st href (by rw [hw]; cases b <;> cases want <;> simp_all) h
          · rename_i hx
            exact pass st href (by rw [hw]; cases b <;> cases want <;> simp_all) h
        · rename_i b hb
          have laid : ∀ v, AS.tmp (St.get ((.tmp d, .av (.bool v)) :: st)) d = .bool v := fun v => by
            have e : St.get ((.tmp d, .av (.bool v)) :: st) = AS.put (St.get st) (.tmp d) (.av (.bool v)) := rfl
            simp only [AS.tmp, e, put_tmp_same]
          by_cases hbw : b = want
          · have h1 := h.1 hbw
            subst hbw
            exact run _ (href.trans (Ref.lit hb)) (by rw [gws _ j b b d hg hgd (laid b)]; simp) h1
          · have hbn : b = !want := by cases b <;> cases want <;> simp_all
            have h1 := h.2 hbn
            rw [hbn] at hb
            exact pass _ (href.trans (Ref.lit hb)) (by rw [gws _ j want (!want) d hg hgd (laid _)]; simp) h1
        · rename_i vs hb
          exact pass st href (by simp only [gw, hg, hgd, hb, boolOf]) h
        · exact h.elim

/-! ### Regions -/

theorem StR.grow {F : Fr} {A : Nat → Prop} {s : AS} {a : Act} {w : World} (h : StR F A s a w) : StR F A s a { w with drawn := w.drawn + 1 } := by
  obtain ⟨β, τ, ok, hx⟩ := h
  exact ⟨β, τ, ok, hx.grow { w with drawn := w.drawn + 1 } (Nat.le_refl _) (fun _ _ => rfl) (fun _ => rfl) rfl rfl rfl⟩

theorem region_sound {F : Fr} {T : Tab} (hT : TabOk F.P T) {id nx : Nat} {ops : Array Oper} (hds : dstsOk F.N ops.toList = true) {Q : Exit → Act → World → Prop} {K : St → Prop}
    (hQ : ∀ st a w A, StR F A (St.get st) a w → (∀ k, A k → k < nx + ops.toList.length) → K st → Q .normal a w) {st : St} {a : Act} {w : World} {A : Nat → Prop} (h : StR F A (St.get st) a w) (hA : ∀ k, A k → k < nx)
    (hv : vcOps F.P T nx ops.toList 0 ops.toList st K) : (Code.region id ops false).wp F.P Q a w := by
  apply wp_region
  have := vcOps_sound hT nx ops.toList hds Q K (fun st a w hs hk => hQ st a w _ hs (fun _ h => h) hk) ops.toList 0 st a w (by simp) (by simp) (h.mono (fun k hk => by have := hA k hk; omega)) hv
  rw [List.range_eq_range']
  simpa using this

theorem draw_sound {F : Fr} {T : Tab} (hT : TabOk F.P T) (hm : F.P.follows .mixedOrders = true) {id nx : Nat} {ops : Array Oper} (hds : dstsOk F.N ops.toList = true) (hB : Region.lexB .any ops = true) {Q : Exit → Act → World → Prop} {K : St → Prop}
    (hQ : ∀ st a w A, StR F A (St.get st) a w → (∀ k, A k → k < nx + ops.toList.length) → K st → Q .normal a w) {st : St} {a : Act} {w : World} {A : Nat → Prop} (h : StR F A (St.get st) a w) (hA : ∀ k, A k → k < nx)
    (hv : vcDraw F.P T nx ops.toList 0 ops.toList [] st K) : (Code.region id ops true).wp F.P Q a w := by
  apply wp_region_any hm
  simp only [Region.lexB, Bool.and_eq_true] at hB
  obtain ⟨R, W, _, h2, h3⟩ := vcDraw_lex ops.toList 0 [] st (St.get st) (fun _ => []) (fun _ => []) (by simp) (Ref.refl _) (fun k hk => by omega) hv
  have h4 := aAny_lex hT (md := .any) (fun i j oj hij hj hno => h3 i j oj hij (Nat.zero_le _) hj hno) ops.toList 0 (Array.replicate ops.size false) (St.get st) (by simp) (fun j hj => by omega) (by simpa using hB.2) h2
  have h5 := aAny_sound hT (base := nx) (ops := ops.toList) (Q' := Q) hds (fun s a w A hs hA ⟨st', href, hk⟩ => hQ st' a w A (hs.ref href) hA hk) _ _ _ a _ ((h.grow).mono (fun k hk => Or.inl (hA k hk))) (by simp) h4
  simpa using h5

end Go.Vc
