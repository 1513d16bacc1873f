/- Pu: chapter 27: the numbers of bytes, and taking from them. -/
import Derived.Test.YtmipeaidieflmaaPuEnc
set_option linter.unusedVariables false
set_option linter.unusedSimpArgs false
set_option linter.unnecessarySimpa false
set_option linter.unusedSectionVars false
namespace Go.Win
open Go.Vc Go.Dec

theorem wr_split {ns ms : List Int} (hn : wfNs ns) (hm : wfNs ms) : ∀ {t : List Int}, wr ns = wr ms ++ t → ∃ ks, ns = ms ++ ks ∧ t = wr ks := by
  induction ms generalizing ns with
  | nil => intro t h; exact ⟨ns, rfl, by simpa [wr] using h.symm⟩
  | cons m ms ih =>
    intro t h
    obtain ⟨w1, w2⟩ := wfNs_cons.1 hm
    cases ns with
    | nil =>
      have := congrArg List.length h
      rw [wr_cons] at this
      simp [wr_nil] at this
      have := code_len m
      omega
    | cons n ns =>
      obtain ⟨v1, v2⟩ := wfNs_cons.1 hn
      rw [wr_cons, wr_cons, List.append_assoc] at h
      have r1 := rd_code v1 (wr ns)
      have r2 := rd_code w1 (wr ms ++ t)
      rw [h, r2] at r1
      have e : m = n := (Prod.mk.inj (Option.some.inj r1)).1
      subst e
      have h' := List.append_cancel_left h
      obtain ⟨ks, k1, k2⟩ := ih v2 w2 h'
      exact ⟨ks, by rw [k1]; rfl, k2⟩

/-- The bytes are the code of these numbers, or of none. -/
def numR (l : List Int) (r : List Int × Int) : Prop := (∃ ns, wfNs ns ∧ l = wr ns ∧ r = (ns, 0)) ∨ (r = ([], 13) ∧ ∀ ns, wfNs ns → l ≠ wr ns)

theorem ref_numbers {l : List Int} (hb : byt l) (hl : l.length ≤ 100000000) : ∃ r, ref27_Numbers l = some r ∧ numR l r := by
  unfold ref27_Numbers ref27_Numbers_l2
  refine loop_ind (f := fun s : List Int × Int => ref27_Numbers_l2s l s.1 s.2)
    (fun s => ∃ a : Nat, a ≤ l.length ∧ s.2 = (a : Int) ∧ wfNs s.1 ∧ l = wr s.1 ++ l.drop a ∧ (wr s.1).length = a) (fun s => l.length - s.2.toNat) (fun r => numR l r) ([], 0) ⟨0, by omega, rfl, wfNs_nil, by simp [wr], rfl⟩ ?_
  rintro ⟨ns, _⟩ ⟨a, ha, rfl, hw, hc, hwl⟩
  simp only at hw hc hwl ⊢
  unfold ref27_Numbers_l2s
  by_cases hlt : a < l.length
  · rw [decide_eq_true (by omega), cond_true, ref_read27 hb (by omega) ha, Option.bind_some]
    have hbd : byt (l.drop a) := byt_drop hb a
    cases hr : rd (l.drop a) with
    | none =>
      right
      have e : rdA l a = (0, 0, false) := by unfold rdA; rw [hr]
      rw [e]
      refine ⟨_, rfl, .inr ⟨rfl, fun ms hm he => ?_⟩⟩
      obtain ⟨ks, k1, k2⟩ := wr_split hm hw (he.symm.trans hc)
      cases ks with
      | nil =>
        have := congrArg List.length k2
        rw [List.length_drop] at this
        simp [wr] at this
        omega
      | cons k ks =>
        have wk : wfNs (k :: ks) := (wfNs_app.1 (k1 ▸ hm)).2
        rw [k2, wr_cons, rd_code (wfNs_cons.1 wk).1] at hr
        cases hr
    | some p =>
      left
      obtain ⟨n, k⟩ := p
      obtain ⟨w, hk, hcc⟩ := rd_some hbd hr
      have hk1 := code_len n
      have hkl : k ≤ l.length - a := by
        have := congrArg List.length hcc
        rw [List.length_append, List.length_drop] at this
        omega
      have hns : ns.length ≤ a := by have := wr_len ns; omega
      have e : rdA l a = (n, ((a + k : Nat) : Int), true) := by unfold rdA; rw [hr]
      rw [e]
      simp only [Bool.not_true, cond_false]
      rw [ck_pos (by rw [decide_eq_true_eq, List.length_singleton]; omega)]
      have e1 : wr (ns ++ [n]) = wr ns ++ code n := by rw [wr_append]; simp [wr]
      refine ⟨_, rfl, ⟨a + k, by omega, rfl, wfNs_app.2 ⟨hw, fun x hx => by simp at hx; subst hx; exact w⟩, ?_, ?_⟩, ?_⟩
      · show l = wr (ns ++ [n]) ++ l.drop (a + k)
        rw [e1, List.append_assoc, ← List.drop_drop, ← hcc]
        exact hc
      · show (wr (ns ++ [n])).length = a + k
        rw [e1, List.length_append, hwl, hk]
      · show l.length - (((a + k : Nat) : Int)).toNat < l.length - ((a : Int)).toNat
        omega
  · right
    rw [decide_eq_false (by omega), cond_false]
    refine ⟨_, rfl, .inl ⟨ns, hw, ?_, rfl⟩⟩
    have hd : l.drop a = [] := List.drop_eq_nil_of_le (by omega)
    rw [hd, List.append_nil] at hc
    exact hc

/-- A step that takes from the numbers, as a reader says. -/
def Cu {α : Type} (f : ref27_Cursor → Option (α × ref27_Cursor)) (P : Rd α) : Prop :=
  ∀ (L : List Int) (a : Nat) (bad : Bool), wfNs L → L.length ≤ 100000000 → a ≤ L.length → ∃ (x : α) (a' : Nat) (bad' : Bool), f ⟨L, (a : Int), bad⟩ = some (x, ⟨L, (a' : Int), bad'⟩) ∧ a ≤ a' ∧ a' ≤ L.length ∧ (bad = true → bad' = true) ∧
    (bad = false → match P (L.drop a) with
      | some (y, rest) => bad' = false ∧ x = y ∧ rest = L.drop a'
      | none => bad' = true)

def cB {α β : Type} (f : ref27_Cursor → Option (α × ref27_Cursor)) (g : α → ref27_Cursor → Option (β × ref27_Cursor)) : ref27_Cursor → Option (β × ref27_Cursor) := fun c => Option.bind (f c) fun y => g y.1 y.2
def cP {α : Type} (x : α) : ref27_Cursor → Option (α × ref27_Cursor) := fun c => some (x, c)

theorem Cu.pure {α : Type} (x : α) : Cu (cP x) (rpure x) := fun L a bad _ _ ha => ⟨x, a, bad, rfl, Nat.le_refl _, ha, fun h => h, fun h => ⟨h, rfl, rfl⟩⟩

theorem Cu.bind {α β : Type} {f : ref27_Cursor → Option (α × ref27_Cursor)} {g : α → ref27_Cursor → Option (β × ref27_Cursor)} {P : Rd α} {Q : α → Rd β} (hf : Cu f P) (hg : ∀ x, Cu (g x) (Q x)) : Cu (cB f g) (rbind P Q) := by
  intro L a bad hw hl ha
  obtain ⟨x, a1, b1, e1, l1, u1, s1, p1⟩ := hf L a bad hw hl ha
  obtain ⟨y, a2, b2, e2, l2, u2, s2, p2⟩ := hg x L a1 b1 hw hl u1
  refine ⟨y, a2, b2, ?_, by omega, u2, fun h => s2 (s1 h), fun h => ?_⟩
  · unfold cB
    rw [e1, Option.bind_some]
    exact e2
  · have q1 := p1 h
    unfold rbind
    cases hp : P (L.drop a) with
    | none =>
      rw [hp] at q1
      exact s2 q1
    | some r =>
      obtain ⟨y1, rest⟩ := r
      rw [hp] at q1
      obtain ⟨c1, c2, c3⟩ := q1
      subst c2 c3
      exact p2 c1

theorem drop_cons {L : List Int} {a : Nat} (h : a < L.length) : L.drop a = L[a] :: L.drop (a + 1) := List.drop_eq_getElem_cons h

theorem take_step {L : List Int} {a : Nat} (bad : Bool) (hl : L.length ≤ 100000000) (h : a < L.length) : ref27_Cursor_Take ⟨L, (a : Int), bad⟩ = some (L[a], ⟨L, ((a + 1 : Nat) : Int), bad⟩) := by
  unfold ref27_Cursor_Take
  simp only []
  rw [decide_eq_false (by omega), cond_false, w64_id (n := (a : Int) + 1) (by omega) (by omega), w64_id (by omega) (by omega), show (a : Int) + 1 - 1 = (a : Int) by omega, idx_get h, Option.bind_some]
  rfl

theorem take_end {L : List Int} {a : Nat} (bad : Bool) (h : L.length ≤ a) : ref27_Cursor_Take ⟨L, (a : Int), bad⟩ = some (0, ⟨L, (a : Int), true⟩) := by
  unfold ref27_Cursor_Take
  simp only []
  rw [decide_eq_true (by omega), cond_true]

theorem Cu.take : Cu ref27_Cursor_Take takeInt := by
  intro L a bad _ hl ha
  by_cases h : a < L.length
  · refine ⟨L[a], a + 1, bad, take_step bad hl h, by omega, h, fun h => h, fun hb => ?_⟩
    rw [drop_cons h]
    exact ⟨hb, rfl, rfl⟩
  · refine ⟨0, a, true, take_end bad (by omega), by omega, ha, fun _ => rfl, fun _ => ?_⟩
    have : L.drop a = [] := List.drop_eq_nil_of_le (by omega)
    rw [this]
    rfl

/-- A length that fits. -/
def manyP : Rd Int := rbind takeInt fun n l => if n < 0 ∨ (l.length : Int) < n then none else some (n, l)

theorem Cu.many : Cu ref27_Cursor_Many manyP := by
  intro L a bad hw hl ha
  obtain ⟨x, a1, b1, e1, l1, u1, s1, p1⟩ := Cu.take L a bad hw hl ha
  unfold ref27_Cursor_Many
  rw [e1, Option.bind_some]
  simp only []
  have e : w64 ((L.length : Int) - (a1 : Int)) = (L.length : Int) - (a1 : Int) := by rw [w64_id] <;> omega
  rw [e]
  by_cases h : x < 0 ∨ (L.length : Int) - (a1 : Int) < x
  · have c : (decide (x < 0) || decide (x > (L.length : Int) - (a1 : Int))) = true := by
      rw [Bool.or_eq_true, decide_eq_true_eq, decide_eq_true_eq]; omega
    rw [c, cond_true]
    refine ⟨0, a1, true, rfl, l1, u1, fun _ => rfl, fun hb => ?_⟩
    have q1 := p1 hb
    unfold manyP rbind
    cases hp : takeInt (L.drop a) with
    | none => rfl
    | some r =>
      obtain ⟨y, rest⟩ := r
      rw [hp] at q1
      obtain ⟨c1, c2, c3⟩ := q1
      subst c2 c3
      simp only [Option.bind_some]
      rw [List.length_drop, if_pos (by omega)]
      exact True.intro
  · have c : (decide (x < 0) || decide (x > (L.length : Int) - (a1 : Int))) = false := by
      rw [Bool.or_eq_false_iff, decide_eq_false_iff_not, decide_eq_false_iff_not]; omega
    rw [c, cond_false]
    refine ⟨x, a1, b1, rfl, l1, u1, s1, fun hb => ?_⟩
    have q1 := p1 hb
    unfold manyP rbind
    cases hp : takeInt (L.drop a) with
    | none => rw [hp] at q1; exact q1
    | some r =>
      obtain ⟨y, rest⟩ := r
      rw [hp] at q1
      obtain ⟨c1, c2, c3⟩ := q1
      subst c2 c3
      simp only [Option.bind_some]
      rw [List.length_drop, if_neg (by omega)]
      exact ⟨c1, rfl, rfl⟩

end Go.Win

