/- Pu: chapter 27: lists that are taken from numbers, and the decoder of commands. -/
import Derived.Test.YtmipeaidieflmaaPuDec
set_option linter.unusedVariables false
set_option linter.unusedSimpArgs false
set_option linter.unnecessarySimpa false
set_option linter.unusedSectionVars false
namespace Go.Win
open Go.Vc Go.Dec

/-- Whether a reader's answer is this one: the value and what is left, or that it failed. -/
def Ans {α : Type} (q : Option (α × List Int)) (x : α) (rest : List Int) (bad : Bool) : Prop := match q with
  | some (y, r) => bad = false ∧ x = y ∧ r = rest
  | none => bad = true

theorem many_run {L : List Int} {a : Nat} (bad : Bool) (hw : wfNs L) (hl : L.length ≤ 100000000) (ha : a ≤ L.length) : ∃ (n a' : Nat) (bad' : Bool), ref27_Cursor_Many ⟨L, (a : Int), bad⟩ = some ((n : Int), ⟨L, (a' : Int), bad'⟩) ∧ a ≤ a' ∧ a' ≤ L.length ∧ n ≤ L.length - a' ∧ (bad = true → bad' = true) ∧
    (bad = false → Ans (manyP (L.drop a)) (n : Int) (L.drop a') bad') := by
  obtain ⟨x, a', b', h1, h2, h3, h4, h5⟩ := Cu.many L a bad hw hl ha
  have hx : 0 ≤ x ∧ x ≤ ((L.length - a' : Nat) : Int) := by
    unfold ref27_Cursor_Many at h1
    obtain ⟨y, a1, b1, e1, l1, u1, _, _⟩ := Cu.take L a bad hw hl ha
    rw [e1, Option.bind_some] at h1
    simp only [] at h1
    have e : w64 ((L.length : Int) - (a1 : Int)) = (L.length : Int) - (a1 : Int) := by rw [w64_id] <;> omega
    rw [e] at h1
    by_cases h : y < 0 ∨ (L.length : Int) - (a1 : Int) < y
    · have c : (decide (y < 0) || decide (y > (L.length : Int) - (a1 : Int))) = true := by
        rw [Bool.or_eq_true, decide_eq_true_eq, decide_eq_true_eq]; omega
      rw [c, cond_true] at h1
      have := (Prod.mk.inj (Option.some.inj h1)).1
      omega
    · have c : (decide (y < 0) || decide (y > (L.length : Int) - (a1 : Int))) = false := by
        rw [Bool.or_eq_false_iff, decide_eq_false_iff_not, decide_eq_false_iff_not]; omega
      rw [c, cond_false] at h1
      have h7 := Prod.mk.inj (Option.some.inj h1)
      have h8 := h7.1
      have h9 : (a1 : Int) = (a' : Int) := congrArg ref27_Cursor.At h7.2
      omega
  obtain ⟨n, rfl⟩ := Int.eq_ofNat_of_zero_le hx.1
  refine ⟨n, a', b', h1, h2, h3, by omega, h4, fun h => ?_⟩
  have := h5 h
  unfold Ans
  split at this
  · rename_i y r e
    rw [e]
    exact this
  · rename_i e
    rw [e]
    exact this

theorem many_take (k : Nat) (l : List Int) : rmany takeInt k l = if k ≤ l.length then some (l.take k, l.drop k) else none := by
  induction k generalizing l with
  | zero => simp [rmany, rpure]
  | succ k ih =>
    unfold rmany rbind
    cases l with
    | nil => rfl
    | cons x l =>
      show Option.bind (some (x, l)) (fun q => Option.bind (rmany takeInt k q.2) fun q' => rpure (q.1 :: q'.1) q'.2) = _
      rw [Option.bind_some]
      simp only []
      rw [ih l]
      by_cases h : k ≤ l.length
      · rw [if_pos h, if_pos (by rw [List.length_cons]; omega)]; rfl
      · rw [if_neg h, if_neg (by rw [List.length_cons]; omega)]; rfl

theorem rlist_eq {α : Type} (p : Rd α) (l : List Int) : rlist takeInt p l = (manyP l).bind fun q => rmany p q.1.toNat q.2 := by
  unfold rlist manyP rbind
  cases takeInt l with
  | none => rfl
  | some q =>
    simp only [Option.bind_some]
    split <;> rfl

theorem list_loop {L : List Int} (bad : Bool) (hl : L.length ≤ 100000000) : ∀ (k a : Nat) (out : List Int), k ≤ L.length - a → a ≤ L.length → out.length ≤ a →
    ref27_Cursor_List_l2 out (k : Int) L (a : Int) bad = some (out ++ (L.drop a).take k, ⟨L, ((a + k : Nat) : Int), bad⟩) := by
  intro k
  induction k with
  | zero =>
    intro a out _ _ _
    unfold ref27_Cursor_List_l2
    rw [List.take_zero, List.append_nil]
    refine loop_inr ?_
    unfold ref27_Cursor_List_l2s
    simp only []
    rw [decide_eq_false (by omega), cond_false]
    rfl
  | succ k ih =>
    intro a out hk ha ho
    have hlt : a < L.length := by omega
    have e : out ++ (L.drop a).take (k + 1) = (out ++ [L[a]]) ++ (L.drop (a + 1)).take k := by rw [drop_cons hlt, List.take_succ_cons]; simp
    rw [e, show a + (k + 1) = (a + 1) + k by omega, ← ih (a + 1) (out ++ [L[a]]) (by omega) (by omega) (by rw [List.length_append, List.length_singleton]; omega)]
    unfold ref27_Cursor_List_l2
    refine loop_inl ?_
    unfold ref27_Cursor_List_l2s
    simp only []
    rw [decide_eq_true (by omega), cond_true, take_step bad hl hlt, Option.bind_some, ck_pos (by rw [decide_eq_true_eq, List.length_singleton]; omega), w64_id (by omega) (by omega)]
    simp only []
    congr 4
    omega

theorem Cu.list : Cu ref27_Cursor_List (rlist takeInt takeInt) := by
  intro L a bad hw hl ha
  obtain ⟨n, a1, b1, e1, l1, u1, k1, s1, p1⟩ := many_run bad hw hl ha
  unfold ref27_Cursor_List
  rw [e1, Option.bind_some]
  simp only []
  rw [list_loop b1 hl n a1 [] k1 u1 (Nat.zero_le _), List.nil_append]
  refine ⟨_, a1 + n, b1, rfl, by omega, by omega, s1, fun hb => ?_⟩
  have q1 := p1 hb
  rw [rlist_eq]
  unfold Ans at q1
  split at q1
  · rename_i y r e
    rw [e]
    obtain ⟨c1, c2, c3⟩ := q1
    subst c2 c3
    rw [Option.bind_some, Int.toNat_natCast, many_take, if_pos (by rw [List.length_drop]; omega)]
    exact ⟨c1, rfl, by rw [List.drop_drop]⟩
  · rename_i e
    rw [e]
    exact q1

/-- A byte. -/
def byteP : Rd Int := rbind takeInt fun n l => if n < 0 ∨ 255 < n then none else some (n, l)

theorem byteP_cons (x : Int) (l : List Int) : byteP (x :: l) = if x < 0 ∨ 255 < x then none else some (x, l) := rfl

theorem bytes_loop {L : List Int} (hl : L.length ≤ 100000000) : ∀ (k a : Nat) (out : List Int) (bad : Bool), k ≤ L.length - a → a ≤ L.length → out.length ≤ a →
    ∃ (x : List Int) (a' : Nat) (bad' : Bool), ref27_Cursor_Bytes_l2 out (k : Int) L (a : Int) bad = some (x, ⟨L, (a' : Int), bad'⟩) ∧ a ≤ a' ∧ a' ≤ L.length ∧ (bad = true → bad' = true) ∧
      (bad = false → match rmany byteP k (L.drop a) with
        | some (y, r) => bad' = false ∧ x = out ++ y ∧ r = L.drop a'
        | none => bad' = true) := by
  intro k
  induction k with
  | zero =>
    intro a out bad _ ha _
    refine ⟨out, a, bad, ?_, by omega, ha, fun h => h, fun h => ⟨h, by simp, rfl⟩⟩
    unfold ref27_Cursor_Bytes_l2
    refine loop_inr ?_
    unfold ref27_Cursor_Bytes_l2s
    simp only []
    rw [decide_eq_false (by omega), cond_false]
    rfl
  | succ k ih =>
    intro a out bad hk ha ho
    have hlt : a < L.length := by omega
    have hm : rmany byteP (k + 1) (L.drop a) = (byteP (L[a] :: L.drop (a + 1))).bind fun q => (rmany byteP k q.2).bind fun q' => rpure (q.1 :: q'.1) q'.2 := by rw [drop_cons hlt]; rfl
    rw [hm, byteP_cons]
    by_cases hx : L[a] < 0 ∨ 255 < L[a]
    · have c : (decide (L[a] < 0) || decide (L[a] > 255)) = true := by rw [Bool.or_eq_true, decide_eq_true_eq, decide_eq_true_eq]; omega
      refine ⟨[], a + 1, true, ?_, by omega, by omega, fun _ => rfl, fun _ => ?_⟩
      · unfold ref27_Cursor_Bytes_l2
        refine loop_inr ?_
        unfold ref27_Cursor_Bytes_l2s
        simp only []
        rw [decide_eq_true (by omega), cond_true, take_step bad hl hlt, Option.bind_some]
        simp only []
        rw [c, cond_true]
      · rw [if_pos hx]; rfl
    · have c : (decide (L[a] < 0) || decide (L[a] > 255)) = false := by rw [Bool.or_eq_false_iff, decide_eq_false_iff_not, decide_eq_false_iff_not]; omega
      have hu : IntKind.u8.wrap L[a] = L[a] := by rw [u8_wrap]; omega
      obtain ⟨x, a', b', h1, h2, h3, h4, h5⟩ := ih (a + 1) (out ++ [L[a]]) bad (by omega) (by omega) (by rw [List.length_append, List.length_singleton]; omega)
      refine ⟨x, a', b', ?_, by omega, h3, h4, fun hb => ?_⟩
      · rw [← h1]
        unfold ref27_Cursor_Bytes_l2
        refine loop_inl ?_
        unfold ref27_Cursor_Bytes_l2s
        simp only []
        rw [decide_eq_true (by omega), cond_true, take_step bad hl hlt, Option.bind_some]
        simp only []
        rw [c, cond_false, hu, ck_pos (by rw [decide_eq_true_eq, List.length_singleton]; omega), w64_id (by omega) (by omega)]
        congr 4
        omega
      · have q := h5 hb
        rw [if_neg hx, Option.bind_some]
        simp only []
        cases hr : rmany byteP k (L.drop (a + 1)) with
        | none => rw [hr] at q; exact q
        | some r =>
          rw [hr] at q
          obtain ⟨q1, q2, q3⟩ := q
          exact ⟨q1, by rw [q2]; simp, q3⟩

theorem Cu.bytes : Cu ref27_Cursor_Bytes (rlist takeInt byteP) := by
  intro L a bad hw hl ha
  obtain ⟨n, a1, b1, e1, l1, u1, k1, s1, p1⟩ := many_run bad hw hl ha
  unfold ref27_Cursor_Bytes
  rw [e1, Option.bind_some]
  simp only []
  obtain ⟨x, a', b', h1, h2, h3, h4, h5⟩ := bytes_loop hl n a1 [] b1 k1 u1 (Nat.zero_le _)
  rw [h1]
  refine ⟨_, a', b', rfl, by omega, h3, fun h => h4 (s1 h), fun hb => ?_⟩
  have q1 := p1 hb
  rw [rlist_eq]
  unfold Ans at q1
  split at q1
  · rename_i y r e
    rw [e]
    obtain ⟨c1, c2, c3⟩ := q1
    subst c2 c3
    rw [Option.bind_some, Int.toNat_natCast]
    have q2 := h5 c1
    simp only [List.nil_append] at q2
    dsimp only
    cases hr : rmany byteP n (L.drop a1) with
    | none => rw [hr] at q2; exact q2
    | some r => rw [hr] at q2; exact q2
  · rename_i e
    rw [e]
    exact h4 q1

def cfgP : Rd api_Config := rbind takeInt fun a => rbind takeInt fun b => rbind takeInt fun c => rbind takeInt fun d => rbind takeInt fun e => rbind takeInt fun f => rbind takeInt fun g => rbind takeInt fun h => rpure ⟨a, b, c, d, e, f, g, h⟩

theorem Cu.config : Cu ref27_Cursor_Config cfgP := by
  have h : Cu _ cfgP := Cu.bind Cu.take fun a => Cu.bind Cu.take fun b => Cu.bind Cu.take fun c => Cu.bind Cu.take fun d => Cu.bind Cu.take fun e => Cu.bind Cu.take fun f => Cu.bind Cu.take fun g => Cu.bind Cu.take fun h => Cu.pure (api_Config.mk a b c d e f g h)
  exact h

/-- What a decoder answers: the value that all the numbers are, or a refusal. -/
def decR {α : Type} (P : Rd α) (l : List Int) (z : α) (r : α × Int) : Prop :=
  (∃ a ns, wfNs ns ∧ l = wr ns ∧ P ns = some (a, []) ∧ r = (a, 0)) ∨ (r = (z, 13) ∧ ∀ a ns, wfNs ns → l = wr ns → P ns ≠ some (a, []))

theorem decode_gen {α : Type} {F : ref27_Cursor → Option (α × ref27_Cursor)} {P : Rd α} (hF : Cu F P) {l : List Int} (hb : byt l) (hl : l.length ≤ 1048576) (z : α) :
    ∃ r, (Option.bind (ref27_Numbers l) fun y => cond (!(y.2 == 0)) (some (z, (13 : Int))) (Option.bind (F ⟨y.1, 0, false⟩) fun q => cond (q.2.Bad || (q.2.At != (q.2.L.length : Int))) (some (z, 13)) (some (q.1, 0)))) = some r ∧ decR P l z r := by
  obtain ⟨r, h1, h2⟩ := ref_numbers hb (by omega)
  rw [h1, Option.bind_some]
  rcases h2 with ⟨ns, w, e, rfl⟩ | ⟨rfl, h⟩
  · simp only [beq_self_eq_true, Bool.not_true, cond_false]
    have hns : ns.length ≤ 100000000 := by have := wr_len ns; rw [e] at hl; omega
    obtain ⟨x, a', b', f1, _, f3, _, f5⟩ := hF ns 0 false w hns (Nat.zero_le _)
    have f1' : F ⟨ns, 0, false⟩ = some (x, ⟨ns, (a' : Int), b'⟩) := f1
    rw [f1', Option.bind_some]
    simp only []
    have q := f5 rfl
    rw [List.drop_zero] at q
    have inj : ∀ ms, wfNs ms → l = wr ms → ms = ns := fun ms hm he => wr_inj hm w (he.symm.trans e)
    cases hp : P ns with
    | none =>
      rw [hp] at q
      have q' : b' = true := q
      subst q'
      refine ⟨(z, 13), rfl, .inr ⟨rfl, fun a ms hm he hc => ?_⟩⟩
      rw [inj ms hm he, hp] at hc
      cases hc
    | some p =>
      obtain ⟨y, rest⟩ := p
      rw [hp] at q
      obtain ⟨q1, q2, q3⟩ := q
      subst q1 q2
      by_cases ha : a' = ns.length
      · have hc : (false || ((a' : Int) != (ns.length : Int))) = false := by simp; omega
        rw [hc, cond_false]
        refine ⟨_, rfl, .inl ⟨x, ns, w, e, ?_, rfl⟩⟩
        rw [hp, q3, ha, List.drop_length]
      · have hc : (false || ((a' : Int) != (ns.length : Int))) = true := by simp; omega
        rw [hc, cond_true]
        refine ⟨_, rfl, .inr ⟨rfl, fun a ms hm he hc => ?_⟩⟩
        rw [inj ms hm he, hp] at hc
        have := (Prod.mk.inj (Option.some.inj hc)).2
        rw [q3] at this
        have := congrArg List.length this
        rw [List.length_drop, List.length_nil] at this
        omega
  · refine ⟨(z, 13), rfl, .inr ⟨rfl, fun a ns w e => absurd e (h ns w)⟩⟩

end Go.Win

