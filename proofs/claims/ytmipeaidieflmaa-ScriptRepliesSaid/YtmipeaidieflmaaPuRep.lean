/- Pu: chapters 27 and 30: replies that are read; the statement ScriptReplies. -/
import Derived.Test.YtmipeaidieflmaaPuJoin
set_option linter.unusedVariables false
set_option linter.unusedSimpArgs false
set_option linter.unnecessarySimpa false
set_option linter.unusedSectionVars false
namespace Go.Win
open Go.Vc Go.Dec

theorem rdN_k : ∀ (l : List Int) (i u w k : Nat), rdN i u l = some (w, k) → i < k ∧ k ≤ i + l.length := by
  intro l
  induction l with
  | nil => intro i u w k h; cases h
  | cons x l ih =>
    intro i u w k h
    unfold rdN at h
    split at h
    · cases h
    split at h
    · cases h
    split at h
    · have := ih _ _ _ _ h
      rw [List.length_cons]; omega
    split at h
    · cases h
    · cases h
      rw [List.length_cons]; omega

theorem eats_rd : Eats rdInt := by
  intro l a l' h
  unfold rdInt at h
  rw [Option.map_eq_some_iff] at h
  obtain ⟨⟨n, k⟩, h1, h2⟩ := h
  cases h2
  unfold rd at h1
  rw [Option.map_eq_some_iff] at h1
  obtain ⟨⟨w, k'⟩, h3, h4⟩ := h1
  cases h4
  have := rdN_k _ _ _ _ _ h3
  rw [List.length_drop]
  simp only at this ⊢
  omega

/-- A step that takes from the bytes l, as a reader says. -/
def Ta {α : Type} (l : List Int) (f : Int → Bool → Option (Int × Bool × α)) (Q : Rd α) : Prop :=
  ∀ (a : Nat) (bad : Bool), a ≤ l.length → ∃ (a' : Nat) (bad' : Bool) (x : α), f (a : Int) bad = some ((a' : Int), bad', x) ∧ a' ≤ l.length ∧ (bad = true → bad' = true) ∧ (bad = false → Ans (Q (l.drop a)) x (l.drop a') bad')

def tB {α β : Type} (f : Int → Bool → Option (Int × Bool × α)) (g : α → Int → Bool → Option (Int × Bool × β)) : Int → Bool → Option (Int × Bool × β) := fun a b => Option.bind (f a b) fun y => g y.2.2 y.1 y.2.1
def tP {α : Type} (x : α) : Int → Bool → Option (Int × Bool × α) := fun a b => some (a, b, x)

theorem Ta.pure {α : Type} (l : List Int) (x : α) : Ta l (tP x) (rpure x) := fun a bad ha => ⟨a, bad, x, rfl, ha, fun h => h, fun h => ⟨h, rfl, rfl⟩⟩

theorem Ta.bind {α β : Type} {l : List Int} {f : Int → Bool → Option (Int × Bool × α)} {g : α → Int → Bool → Option (Int × Bool × β)} {P : Rd α} {Q : α → Rd β} (hf : Ta l f P) (hg : ∀ x, Ta l (g x) (Q x)) : Ta l (tB f g) (rbind P Q) := by
  intro a bad ha
  obtain ⟨a1, b1, x, e1, u1, s1, p1⟩ := hf a bad ha
  obtain ⟨a2, b2, y, e2, u2, s2, p2⟩ := hg x a1 b1 u1
  refine ⟨a2, b2, y, ?_, u2, fun h => s2 (s1 h), fun h => ?_⟩
  · unfold tB
    rw [e1, Option.bind_some]
    exact e2
  · have q1 := p1 h
    unfold rbind
    cases hp : P (l.drop a) with
    | none =>
      rw [hp] at q1
      exact s2 q1
    | some r =>
      obtain ⟨y1, rest⟩ := r
      rw [hp] at q1
      obtain ⟨c1, c2, c3⟩ := q1
      subst c2 c3
      exact p2 c1

/-- What is read is changed. -/
theorem Ta.map {α β : Type} {l : List Int} {f : Int → Bool → Option (Int × Bool × α)} {Q : Rd α} (h : Ta l f Q) (m : α → β) : Ta l (fun a b => Option.bind (f a b) fun y => some (y.1, y.2.1, m y.2.2)) (rbind Q fun x => rpure (m x)) := Ta.bind h fun x => Ta.pure l (m x)

theorem Ta.int {l : List Int} (hb : byt l) (hl : l.length ≤ 100000000) (x0 : Int) : Ta l (fun a b => tape_Tape_Int_i4 l a b x0) rdInt := by
  intro a bad ha
  unfold tape_Tape_Int_i4
  cases bad with
  | true => exact ⟨a, true, x0, rfl, ha, fun _ => rfl, fun h => by cases h⟩
  | false =>
    dsimp only
    rw [cond_false, tape_read hb (by omega) ha, Option.bind_some]
    cases hr : rd (l.drop a) with
    | none =>
      have e : rdA l a = (0, 0, false) := by unfold rdA; rw [hr]
      have e2 : rdInt (l.drop a) = none := by unfold rdInt; rw [hr]; rfl
      rw [e, e2]
      exact ⟨a, true, x0, rfl, ha, fun _ => rfl, fun _ => rfl⟩
    | some p =>
      obtain ⟨n, k⟩ := p
      obtain ⟨w, hk, hc⟩ := rd_some (byt_drop hb a) hr
      have hkl : a + k ≤ l.length := by
        have := congrArg List.length hc
        rw [List.length_append, List.length_drop] at this
        omega
      have e : rdA l a = (n, ((a + k : Nat) : Int), true) := by unfold rdA; rw [hr]
      have e2 : rdInt (l.drop a) = some (n, l.drop (a + k)) := by unfold rdInt; rw [hr]; simp [List.drop_drop]
      rw [e, e2]
      exact ⟨a + k, false, n, rfl, hkl, fun h => h, fun _ => ⟨rfl, rfl, rfl⟩⟩

theorem small_i4 (l : List Int) (x0 : Int) : (fun a b => tape_Tape_Small_i4 l a b x0) = fun a b => tape_Tape_Int_i4 l a b x0 := by
  funext a b
  unfold tape_Tape_Small_i4
  cases tape_Tape_Int_i4 l a b x0 <;> rfl

theorem Ta.small {l : List Int} (hb : byt l) (hl : l.length ≤ 100000000) (x0 : Int) : Ta l (fun a b => tape_Tape_Small_i4 l a b x0) rdInt := by
  rw [small_i4]
  exact Ta.int hb hl x0

/-- A number from p to q. -/
def withinQ (p q : Int) : Rd Int := rbind rdInt fun n l => if n < p ∨ q < n then none else some (n, l)

theorem Ta.within {l : List Int} (hb : byt l) (hl : l.length ≤ 100000000) (p q x0 : Int) : Ta l (fun a b => tape_Tape_Within_i3 p q l a b x0) (withinQ p q) := by
  intro a bad ha
  obtain ⟨a1, b1, x, e1, u1, s1, p1⟩ := Ta.int hb hl x0 a bad ha
  unfold tape_Tape_Within_i3
  dsimp only at e1 ⊢
  rw [e1, Option.bind_some]
  dsimp only
  by_cases h : x < p ∨ q < x
  · have c : (decide (x < p) || decide (x > q)) = true := by rw [Bool.or_eq_true, decide_eq_true_eq, decide_eq_true_eq]; omega
    rw [c, cond_true]
    refine ⟨a1, true, x, rfl, u1, fun _ => rfl, fun hb => ?_⟩
    have q1 := p1 hb
    unfold withinQ rbind
    cases hp : rdInt (l.drop a) with
    | none => rfl
    | some r =>
      obtain ⟨y, rest⟩ := r
      rw [hp] at q1
      obtain ⟨c1, c2, c3⟩ := q1
      subst c2 c3
      rw [Option.bind_some]
      dsimp only
      rw [if_pos h]
      rfl
  · have c : (decide (x < p) || decide (x > q)) = false := by rw [Bool.or_eq_false_iff, decide_eq_false_iff_not, decide_eq_false_iff_not]; omega
    rw [c, cond_false]
    refine ⟨a1, b1, x, rfl, u1, s1, fun hb => ?_⟩
    have q1 := p1 hb
    unfold withinQ rbind
    cases hp : rdInt (l.drop a) with
    | none => rw [hp] at q1; exact q1
    | some r =>
      obtain ⟨y, rest⟩ := r
      rw [hp] at q1
      obtain ⟨c1, c2, c3⟩ := q1
      subst c2 c3
      rw [Option.bind_some]
      dsimp only
      rw [if_neg h]
      exact ⟨c1, rfl, rfl⟩

/-- A loop that reads so many elements, or stops where one is bad. -/
theorem ta_loop {α : Type} {l : List Int} {S : Int × Bool × List α × Int → Option ((Int × Bool × List α × Int) ⊕ (Int × Bool × List α))} {Q : Rd α}
    (hs : ∀ (a : Nat) (out : List α) (k : Nat), a ≤ l.length → out.length + k ≤ 100000000 → ∃ (a' : Nat) (bad' : Bool) (x : α), S ((a : Int), false, out, ((k + 1 : Nat) : Int)) = some (.inl ((a' : Int), bad', out ++ [x], (k : Int))) ∧ a' ≤ l.length ∧ Ans (Q (l.drop a)) x (l.drop a') bad')
    (hb : ∀ (a : Int) (out : List α) (k : Int), S (a, true, out, k) = some (.inr (a, true, out))) (he : ∀ (a : Int) (out : List α), S (a, false, out, 0) = some (.inr (a, false, out))) :
    ∀ (k a : Nat) (out : List α), a ≤ l.length → out.length + k ≤ 100000000 → ∃ (a' : Nat) (bad' : Bool) (x : List α), loop S ((a : Int), false, out, (k : Int)) = some ((a' : Int), bad', x) ∧ a' ≤ l.length ∧
      match rmany Q k (l.drop a) with
      | some (y, r) => bad' = false ∧ x = out ++ y ∧ r = l.drop a'
      | none => bad' = true := by
  intro k
  induction k with
  | zero =>
    intro a out ha _
    exact ⟨a, false, out, loop_inr (he _ _), ha, rfl, by simp, rfl⟩
  | succ k ih =>
    intro a out ha ho
    obtain ⟨a1, b1, x, e1, u1, p1⟩ := hs a out k ha (by omega)
    have hm : rmany Q (k + 1) (l.drop a) = (Q (l.drop a)).bind fun q => (rmany Q k q.2).bind fun q' => rpure (q.1 :: q'.1) q'.2 := rfl
    rw [hm, loop_inl e1]
    cases hq : Q (l.drop a) with
    | none =>
      rw [hq] at p1
      have p1' : b1 = true := p1
      subst p1'
      exact ⟨a1, true, _, loop_inr (hb _ _ _), u1, rfl⟩
    | some r =>
      obtain ⟨y, rest⟩ := r
      rw [hq] at p1
      obtain ⟨c1, c2, c3⟩ := p1
      subst c1 c2 c3
      obtain ⟨a2, b2, z, e2, u2, p2⟩ := ih a1 (out ++ [x]) u1 (by rw [List.length_append, List.length_singleton]; omega)
      refine ⟨a2, b2, z, e2, u2, ?_⟩
      rw [Option.bind_some]
      dsimp only
      cases hr : rmany Q k (l.drop a1) with
      | none => rw [hr] at p2; exact p2
      | some r =>
        rw [hr] at p2
        obtain ⟨q1, q2, q3⟩ := p2
        exact ⟨q1, by rw [q2]; simp, q3⟩

/-- A list on the tape. -/
theorem Ta.list {α : Type} {l : List Int} (hb : byt l) (hl : l.length ≤ 100000000) {S : Int × Bool × List α × Int → Option ((Int × Bool × List α × Int) ⊕ (Int × Bool × List α))} {Q : Rd α} (hE : Eats Q)
    (hs : ∀ (a : Nat) (out : List α) (k : Nat), a ≤ l.length → out.length + k ≤ 100000000 → ∃ (a' : Nat) (bad' : Bool) (x : α), S ((a : Int), false, out, ((k + 1 : Nat) : Int)) = some (.inl ((a' : Int), bad', out ++ [x], (k : Int))) ∧ a' ≤ l.length ∧ Ans (Q (l.drop a)) x (l.drop a') bad')
    (hbad : ∀ (a : Int) (out : List α) (k : Int), S (a, true, out, k) = some (.inr (a, true, out))) (he : ∀ (a : Int) (out : List α), S (a, false, out, 0) = some (.inr (a, false, out))) (x0 : Int) :
    Ta l (fun a b => Option.bind (tape_Tape_Within_i3 0 (w64 ((l.length : Int) - a)) l a b x0) fun y => loop S (y.1, y.2.1, [], y.2.2)) (rlist rdInt Q) := by
  intro a bad ha
  obtain ⟨a1, b1, n, e1, u1, s1, p1⟩ := Ta.within hb hl 0 (w64 ((l.length : Int) - (a : Int))) x0 a bad ha
  have e1' : tape_Tape_Within_i3 0 (w64 ((l.length : Int) - (a : Int))) l (a : Int) bad x0 = some ((a1 : Int), b1, n) := e1
  dsimp only
  rw [e1', Option.bind_some]
  dsimp only
  cases b1 with
  | true =>
    refine ⟨a1, true, [], loop_inr (hbad _ _ _), u1, fun _ => rfl, fun h => ?_⟩
    have q := p1 h
    unfold rlist rbind
    unfold withinQ rbind at q
    cases hr : rdInt (l.drop a) with
    | none => rfl
    | some r =>
      obtain ⟨m, rest⟩ := r
      rw [hr, Option.bind_some] at q
      dsimp only at q
      have hlen := eats_rd _ _ _ hr
      rw [List.length_drop] at hlen
      have ew : w64 ((l.length : Int) - (a : Int)) = (l.length : Int) - (a : Int) := by rw [w64_id] <;> omega
      rw [ew] at q
      by_cases h : m < 0 ∨ (l.length : Int) - (a : Int) < m
      · rw [Option.bind_some]
        dsimp only
        rw [if_pos (by omega)]
        rfl
      · rw [if_neg h] at q
        exact absurd q.1 (by decide)
  | false =>
    have hbf : bad = false := by cases bad with
      | true => exact absurd (s1 rfl) (by decide)
      | false => rfl
    have q := p1 hbf
    unfold withinQ rbind at q
    have ew : w64 ((l.length : Int) - (a : Int)) = (l.length : Int) - (a : Int) := by rw [w64_id] <;> omega
    rw [ew] at q
    cases hr : rdInt (l.drop a) with
    | none =>
      rw [hr] at q
      have q' : false = true := q
      cases q'
    | some r =>
      obtain ⟨m, rest⟩ := r
      rw [hr, Option.bind_some] at q
      dsimp only at q
      by_cases h : m < 0 ∨ (l.length : Int) - (a : Int) < m
      · rw [if_pos h] at q
        have q' : false = true := q
        cases q'
      · rw [if_neg h] at q
        obtain ⟨_, c2, c3⟩ := q
        subst c2 c3
        obtain ⟨k, rfl⟩ := Int.eq_ofNat_of_zero_le (show 0 ≤ n by omega)
        obtain ⟨a2, b2, x, e2, u2, p2⟩ := ta_loop hs hbad he k a1 [] u1 (by rw [List.length_nil]; omega)
        refine ⟨a2, b2, x, e2, u2, (fun h => by rw [hbf] at h; cases h), fun _ => ?_⟩
        unfold rlist rbind
        rw [hr, Option.bind_some]
        dsimp only
        rw [List.length_drop, Int.toNat_natCast]
        by_cases hk : ((l.length - a1 : Nat) : Int) < (k : Int)
        · rw [if_pos (.inr hk)]
          cases hm : rmany Q k (l.drop a1) with
          | none => rw [hm] at p2; exact p2
          | some r =>
            have := many_len hE k _ _ _ hm
            rw [List.length_drop] at this
            omega
        · rw [if_neg (by omega)]
          cases hm : rmany Q k (l.drop a1) with
          | none => rw [hm] at p2; exact p2
          | some r =>
            rw [hm] at p2
            obtain ⟨q1, q2, q3⟩ := p2
            exact ⟨q1, by rw [q2]; rfl, q3⟩

theorem bind_id {α : Type} (o : Option (Int × Bool × α)) : (Option.bind o fun y => some (y.1, y.2.1, y.2.2)) = o := by cases o <;> rfl

theorem Ta.ints {l : List Int} (hb : byt l) (hl : l.length ≤ 100000000) : Ta l (fun a b => tape_Tape_Ints_i2 l a b) (rlist rdInt rdInt) := by
  have h := Ta.list hb hl (S := fun s : Int × Bool × List Int × Int => tape_List_int64__i4_l7s l s.1 s.2.1 s.2.2.1 s.2.2.2) eats_rd (fun a out k ha ho => ?_) (fun a out k => ?_) (fun a out => ?_) 0
  · have e : (fun a b => tape_Tape_Ints_i2 l a b) = fun a b => Option.bind (tape_Tape_Within_i3 0 (w64 ((l.length : Int) - a)) l a b 0) fun y => loop (fun s : Int × Bool × List Int × Int => tape_List_int64__i4_l7s l s.1 s.2.1 s.2.2.1 s.2.2.2) (y.1, y.2.1, [], y.2.2) := by
      funext a b
      unfold tape_Tape_Ints_i2
      rw [bind_id]
      rfl
    rw [e]
    exact h
  · obtain ⟨a1, b1, x, e1, u1, _, p1⟩ := Ta.int hb hl 0 a false ha
    have e1' : tape_Tape_Int_i4 l (a : Int) false 0 = some ((a1 : Int), b1, x) := e1
    refine ⟨a1, b1, x, ?_, u1, p1 rfl⟩
    unfold tape_List_int64__i4_l7s
    dsimp only
    rw [decide_eq_true (by omega), Bool.not_false, Bool.and_self, cond_true, e1', Option.bind_some, ck_pos (by rw [decide_eq_true_eq, List.length_singleton]; omega), w64_id (by omega) (by omega)]
    dsimp only
    congr 5
    omega
  · unfold tape_List_int64__i4_l7s
    dsimp only
    rw [Bool.not_true, Bool.and_false, cond_false]
    rfl
  · unfold tape_List_int64__i4_l7s
    dsimp only
    rw [decide_eq_false (by omega), Bool.false_and, cond_false]
    rfl

def byteQ : Rd Int := withinQ 0 255

theorem eats_byteQ : Eats byteQ := by
  intro l a l' h
  unfold byteQ withinQ rbind at h
  rw [Option.bind_eq_some_iff] at h
  obtain ⟨⟨n, r⟩, h1, h2⟩ := h
  dsimp only at h2
  split at h2
  · cases h2
  · cases h2
    exact eats_rd _ _ _ h1

theorem Ta.text {l : List Int} (hb : byt l) (hl : l.length ≤ 100000000) : Ta l (fun a b => tape_Tape_Text_i2 l a b) (rlist rdInt byteQ) := by
  have h := Ta.list hb hl (S := fun s : Int × Bool × List Int × Int => tape_List_byte__i4_l7s l s.1 s.2.1 s.2.2.1 s.2.2.2) eats_byteQ (fun a out k ha ho => ?_) (fun a out k => ?_) (fun a out => ?_) 0
  · have e : (fun a b => tape_Tape_Text_i2 l a b) = fun a b => Option.bind (tape_Tape_Within_i3 0 (w64 ((l.length : Int) - a)) l a b 0) fun y => loop (fun s : Int × Bool × List Int × Int => tape_List_byte__i4_l7s l s.1 s.2.1 s.2.2.1 s.2.2.2) (y.1, y.2.1, [], y.2.2) := by
      funext a b
      unfold tape_Tape_Text_i2
      rw [bind_id]
      rfl
    rw [e]
    exact h
  · obtain ⟨a1, b1, x, e1, u1, _, p1⟩ := Ta.within hb hl 0 255 0 a false ha
    have e1' : tape_Tape_Within_i3 0 255 l (a : Int) false (w64 0) = some ((a1 : Int), b1, x) := e1
    refine ⟨a1, b1, IntKind.u8.wrap x, ?_, u1, ?_⟩
    · unfold tape_List_byte__i4_l7s tape_Tape_Text_1_i2
      dsimp only
      rw [decide_eq_true (by omega), Bool.not_false, Bool.and_self, cond_true, e1', Option.bind_some, Option.bind_some, ck_pos (by rw [decide_eq_true_eq, List.length_singleton]; omega), w64_id (by omega) (by omega)]
      dsimp only
      congr 5
      omega
    · have q := p1 rfl
      unfold byteQ
      cases hq : withinQ 0 255 (l.drop a) with
      | none => rw [hq] at q; exact q
      | some r =>
        obtain ⟨y, rest⟩ := r
        rw [hq] at q
        obtain ⟨c1, c2, c3⟩ := q
        refine ⟨c1, ?_, c3⟩
        unfold withinQ rbind at hq
        rw [Option.bind_eq_some_iff] at hq
        obtain ⟨⟨n, r⟩, h1, h2⟩ := hq
        dsimp only at h2
        split at h2
        · cases h2
        · cases h2
          rw [c2, u8_wrap]
          omega
  · unfold tape_List_byte__i4_l7s
    dsimp only
    rw [Bool.not_true, Bool.and_false, cond_false]
    rfl
  · unfold tape_List_byte__i4_l7s
    dsimp only
    rw [decide_eq_false (by omega), Bool.false_and, cond_false]
    rfl

def ratioR (i : Rd Int) : Rd api_Ratio := rbind i fun n => rbind i fun d => rpure ⟨n, d⟩
def wideR (i : Rd Int) : Rd api_Wide := rbind i fun h => rbind i fun l => rpure ⟨wu64 h, wu64 l⟩
/-- A reply, from bytes or from numbers. -/
def repR (i b : Rd Int) : Rd api_Reply := rbind i fun c => rbind (ratioR i) fun lo => rbind (ratioR i) fun es => rbind (ratioR i) fun hi => rbind (rlist i i) fun vs => rbind (wideR i) fun nu => rbind (wideR i) fun de => rbind (rlist i i) fun is => rbind (rlist i b) fun bs => rpure ⟨c, ⟨⟨lo, es, hi⟩, vs, ⟨nu, de⟩⟩, is, bs⟩

theorem eats_take : Eats takeInt := by
  intro ns a ns' h
  cases ns with
  | nil => cases h
  | cons n ns => cases h; simp

theorem eats_byteP : Eats byteP := by
  intro ns a ns' h
  cases ns with
  | nil => cases h
  | cons n ns =>
    rw [byteP_cons] at h
    split at h
    · cases h
    · cases h; simp

theorem sim_byte : Sim byteQ byteP := by
  show Sim (rbind rdInt fun n l => if n < 0 ∨ 255 < n then none else some (n, l)) (rbind takeInt fun n l => if n < 0 ∨ 255 < n then none else some (n, l))
  refine sim_bind sim_int fun n => ?_
  by_cases h : n < 0 ∨ 255 < n
  · simp only [if_pos h]; exact sim_fail
  · simp only [if_neg h]; exact sim_pure n

theorem sim_ratio : Sim (ratioR rdInt) (ratioR takeInt) := sim_bind sim_int fun _ => sim_bind sim_int fun _ => sim_pure _
theorem sim_wide : Sim (wideR rdInt) (wideR takeInt) := sim_bind sim_int fun _ => sim_bind sim_int fun _ => sim_pure _
theorem sim_rep : Sim (repR rdInt byteQ) (repR takeInt byteP) :=
  sim_bind sim_int fun _ => sim_bind sim_ratio fun _ => sim_bind sim_ratio fun _ => sim_bind sim_ratio fun _ => sim_bind (sim_list sim_int eats_take) fun _ => sim_bind sim_wide fun _ => sim_bind sim_wide fun _ => sim_bind (sim_list sim_int eats_take) fun _ => sim_bind (sim_list sim_byte eats_byteP) fun _ => sim_pure _

noncomputable def repF : ref27_Cursor → Option (api_Reply × ref27_Cursor) := cB ref27_Cursor_Take fun c => cB ref27_Cursor_ratio fun lo => cB ref27_Cursor_ratio fun es => cB ref27_Cursor_ratio fun hi => cB ref27_Cursor_List fun vs => cB ref27_Cursor_Wide fun nu => cB ref27_Cursor_Wide fun de => cB ref27_Cursor_List fun is => cB ref27_Cursor_Bytes fun bs => cP ⟨c, ⟨⟨lo, es, hi⟩, vs, ⟨nu, de⟩⟩, is, bs⟩

theorem Cu.ratio : Cu ref27_Cursor_ratio (ratioR takeInt) := by
  have h : Cu _ (ratioR takeInt) := Cu.bind Cu.take fun a => Cu.bind Cu.take fun b => Cu.pure (api_Ratio.mk a b)
  exact h
theorem Cu.wide : Cu ref27_Cursor_Wide (wideR takeInt) := by
  have h : Cu _ (wideR takeInt) := Cu.bind Cu.take fun a => Cu.bind Cu.take fun b => Cu.pure (api_Wide.mk (wu64 a) (wu64 b))
  exact h
theorem Cu.rep : Cu repF (repR takeInt byteP) :=
  Cu.bind Cu.take fun _ => Cu.bind Cu.ratio fun _ => Cu.bind Cu.ratio fun _ => Cu.bind Cu.ratio fun _ => Cu.bind Cu.list fun _ => Cu.bind Cu.wide fun _ => Cu.bind Cu.wide fun _ => Cu.bind Cu.list fun _ => Cu.bind Cu.bytes fun _ => Cu.pure _

def rep0 : api_Reply := ⟨0, ⟨⟨⟨0, 0⟩, ⟨0, 0⟩, ⟨0, 0⟩⟩, [], ⟨⟨0, 0⟩, ⟨0, 0⟩⟩⟩, [], []⟩

theorem ref_decode_rep {l : List Int} (hb : byt l) (hl : l.length ≤ 1048576) : ∃ r, ref27_DecodeReply l = some r ∧ decR (repR takeInt byteP) l rep0 r := by
  obtain ⟨r, h1, h2⟩ := decode_gen Cu.rep hb hl rep0
  refine ⟨r, ?_, h2⟩
  rw [← h1]
  unfold ref27_DecodeReply ref27_open
  rw [decide_eq_false (by omega), cond_false]
  simp only [Option.bind_assoc, Option.bind_some, Option.elim_some, repF, cB, cP]
  rfl

theorem Ta.ratio {l : List Int} (hb : byt l) (hl : l.length ≤ 100000000) (x : api_Ratio) : Ta l (fun a b => tape_Tape_Ratio_i1 l a b x) (ratioR rdInt) := by
  have h := Ta.bind (Ta.int hb hl x.Num) fun n => Ta.bind (Ta.int hb hl x.Den) fun d => Ta.pure l (api_Ratio.mk n d)
  exact h
theorem Ta.word {l : List Int} (hb : byt l) (hl : l.length ≤ 100000000) (x : Int) : Ta l (fun a b => tape_Tape_Word_i2 l a b x) (rbind rdInt fun n => rpure (wu64 n)) := Ta.bind (Ta.int hb hl (w64 x)) fun n => Ta.pure l (wu64 n)
theorem bind_pure {α β γ : Type} (p : Rd α) (m : α → β) (g : β → Rd γ) : rbind (rbind p fun x => rpure (m x)) g = rbind p fun x => g (m x) := by
  funext l
  unfold rbind
  cases p l <;> rfl
theorem Ta.wide {l : List Int} (hb : byt l) (hl : l.length ≤ 100000000) (x : api_Wide) : Ta l (fun a b => tape_Tape_Wide_i1 l a b x) (wideR rdInt) := by
  have h := Ta.bind (Ta.word hb hl x.Hi) fun n => Ta.bind (Ta.word hb hl x.Lo) fun d => Ta.pure l (api_Wide.mk n d)
  simp only [bind_pure] at h
  exact h

noncomputable def repT (l : List Int) : Int → Bool → Option (Int × Bool × api_Reply) := tB (fun a b => tape_Tape_Small_i4 l a b 0) fun c => tB (fun a b => tape_Tape_Ratio_i1 l a b ⟨0, 0⟩) fun lo => tB (fun a b => tape_Tape_Ratio_i1 l a b ⟨0, 0⟩) fun es => tB (fun a b => tape_Tape_Ratio_i1 l a b ⟨0, 0⟩) fun hi => tB (fun a b => tape_Tape_Ints_i2 l a b) fun vs =>
  tB (fun a b => tape_Tape_Wide_i1 l a b ⟨0, 0⟩) fun nu => tB (fun a b => tape_Tape_Wide_i1 l a b ⟨0, 0⟩) fun de => tB (fun a b => tape_Tape_Ints_i2 l a b) fun is => tB (fun a b => tape_Tape_Text_i2 l a b) fun bs => tP ⟨c, ⟨⟨lo, es, hi⟩, vs, ⟨nu, de⟩⟩, is, bs⟩

theorem Ta.rep {l : List Int} (hb : byt l) (hl : l.length ≤ 100000000) : Ta l (repT l) (repR rdInt byteQ) :=
  Ta.bind (Ta.small hb hl 0) fun _ => Ta.bind (Ta.ratio hb hl _) fun _ => Ta.bind (Ta.ratio hb hl _) fun _ => Ta.bind (Ta.ratio hb hl _) fun _ => Ta.bind (Ta.ints hb hl) fun _ => Ta.bind (Ta.wide hb hl _) fun _ => Ta.bind (Ta.wide hb hl _) fun _ => Ta.bind (Ta.ints hb hl) fun _ => Ta.bind (Ta.text hb hl) fun _ => Ta.pure l _

/-- The same of a decoder of bytes. -/
def decT {α : Type} (Q : Rd α) (l : List Int) (z : α) (r : α × Int) : Prop := (∃ a, Q l = some (a, []) ∧ r = (a, 0)) ∨ (r = (z, 13) ∧ ∀ a, Q l ≠ some (a, []))

theorem tape_gen {α : Type} {l : List Int} {F : Int → Bool → Option (Int × Bool × α)} {Q : Rd α} (h : Ta l F Q) (z : α) :
    ∃ r, (Option.bind (F 0 false) fun q => cond (q.2.1 || (q.1 != (l.length : Int))) (some (z, (13 : Int))) (some (q.2.2, 0))) = some r ∧ decT Q l z r := by
  obtain ⟨a, b, x, e, u, _, p⟩ := h 0 false (Nat.zero_le _)
  have e' : F 0 false = some ((a : Int), b, x) := e
  have q := p rfl
  rw [List.drop_zero] at q
  rw [e', Option.bind_some]
  dsimp only
  cases hq : Q l with
  | none =>
    rw [hq] at q
    have q' : b = true := q
    subst q'
    exact ⟨(z, 13), rfl, .inr ⟨rfl, fun a h => by rw [hq] at h; cases h⟩⟩
  | some r =>
    obtain ⟨y, rest⟩ := r
    rw [hq] at q
    obtain ⟨c1, c2, c3⟩ := q
    subst c1 c2
    by_cases ha : a = l.length
    · have hc : (false || ((a : Int) != (l.length : Int))) = false := by simp; omega
      rw [hc, cond_false]
      refine ⟨_, rfl, .inl ⟨x, ?_, rfl⟩⟩
      rw [hq, c3, ha, List.drop_length]
    · have hc : (false || ((a : Int) != (l.length : Int))) = true := by simp; omega
      rw [hc, cond_true]
      refine ⟨_, rfl, .inr ⟨rfl, fun a' h => ?_⟩⟩
      rw [hq] at h
      have := (Prod.mk.inj (Option.some.inj h)).2
      rw [c3] at this
      have := congrArg List.length this
      rw [List.length_drop, List.length_nil] at this
      omega

theorem codec_decode_rep {l : List Int} (hb : byt l) (hl : l.length ≤ 1048576) : ∃ r, codec_DecodeReply l = some r ∧ decT (repR rdInt byteQ) l rep0 r := by
  obtain ⟨r, h1, h2⟩ := tape_gen (Ta.rep hb (by omega)) rep0
  refine ⟨r, ?_, h2⟩
  rw [← h1]
  unfold codec_DecodeReply codec_reply_i1
  rw [decide_eq_false (by omega)]
  simp only [Option.bind_assoc, Option.bind_some, repT, tB, tP]
  rfl

/-- Both decoders answer the same. -/
theorem dec_same {α : Type} {Q P : Rd α} (hs : Sim Q P) {l : List Int} (hb : byt l) {z : α} {r r' : α × Int} (h : decT Q l z r) (h' : decR P l z r') : r = r' := by
  rcases h with ⟨a, e, rfl⟩ | ⟨rfl, n⟩
  · rcases h' with ⟨a', ns, w, el, ep, rfl⟩ | ⟨_, n'⟩
    · have := (sim_all hs hb a').2 ⟨ns, w, el, ep⟩
      rw [e] at this
      rw [(Prod.mk.inj (Option.some.inj this)).1]
    · obtain ⟨ns, w, el, ep⟩ := (sim_all hs hb a).1 e
      exact absurd ep (n' a ns w el)
  · rcases h' with ⟨a', ns, w, el, ep, rfl⟩ | ⟨rfl, _⟩
    · exact absurd ((sim_all hs hb a').2 ⟨ns, w, el, ep⟩) (n a')
    · rfl

theorem rlist_len {p : Rd Int} (hp : Eats p) {ns as rest : List Int} (h : rlist takeInt p ns = some (as, rest)) : as.length ≤ ns.length ∧ rest.length ≤ ns.length := by
  have hm : ∀ (k : Nat) (l as r : List Int), rmany p k l = some (as, r) → as.length = k := by
    intro k
    induction k with
    | zero => intro l as r h; cases h; rfl
    | succ k ih =>
      intro l as r h
      unfold rmany rbind at h
      rw [Option.bind_eq_some_iff] at h
      obtain ⟨⟨a, n1⟩, e1, e2⟩ := h
      have e2' : ((rmany p k n1).bind fun q => rpure (a :: q.1) q.2) = some (as, r) := e2
      rw [Option.bind_eq_some_iff] at e2'
      obtain ⟨⟨bs, n2⟩, e3, e4⟩ := e2'
      cases e4
      rw [List.length_cons, ih _ _ _ e3]
  rw [rlist_eq, Option.bind_eq_some_iff] at h
  obtain ⟨⟨n, l⟩, h1, h2⟩ := h
  have h3 := hm _ _ _ _ h2
  have h4 := many_len hp _ _ _ _ h2
  have h5 : l.length ≤ ns.length := by
    unfold manyP rbind at h1
    rw [Option.bind_eq_some_iff] at h1
    obtain ⟨⟨m, l'⟩, g1, g2⟩ := h1
    have := eats_take _ _ _ g1
    dsimp only at g2
    split at g2
    · cases g2
    · cases g2
      omega
  dsimp only at h3 h4 h5
  omega

/-- A reply whose lists are short. -/
def RepOk (r : api_Reply) : Prop := r.Answer.Values.length ≤ 1048576 ∧ r.IDs.length ≤ 1048576 ∧ r.Bytes.length ≤ 1048576

theorem rep_ok {ns : List Int} {r : api_Reply} (hn : ns.length ≤ 1048576) (h : repR takeInt byteP ns = some (r, [])) : RepOk r := by
  have rb : ∀ {α β : Type} {p : Rd α} {f : α → Rd β} {l : List Int} {x : β × List Int}, rbind p f l = some x → ∃ a l', p l = some (a, l') ∧ f a l' = some x := by
    intro α β p f l x h
    unfold rbind at h
    rw [Option.bind_eq_some_iff] at h
    obtain ⟨⟨a, l'⟩, h1, h2⟩ := h
    exact ⟨a, l', h1, h2⟩
  have ti : ∀ {l : List Int} {a : Int} {l' : List Int}, takeInt l = some (a, l') → l'.length ≤ l.length := fun h => Nat.le_of_lt (eats_take _ _ _ h)
  have tr : ∀ {l : List Int} {a : api_Ratio} {l' : List Int}, ratioR takeInt l = some (a, l') → l'.length ≤ l.length := by
    intro l a l' h
    obtain ⟨_, _, h1, h⟩ := rb h
    obtain ⟨_, _, h2, h⟩ := rb h
    cases h
    have := ti h1
    have := ti h2
    omega
  have tw : ∀ {l : List Int} {a : api_Wide} {l' : List Int}, wideR takeInt l = some (a, l') → l'.length ≤ l.length := by
    intro l a l' h
    obtain ⟨_, _, h1, h⟩ := rb h
    obtain ⟨_, _, h2, h⟩ := rb h
    cases h
    have := ti h1
    have := ti h2
    omega
  obtain ⟨_, _, h1, h⟩ := rb h
  obtain ⟨_, _, h2, h⟩ := rb h
  obtain ⟨_, _, h3, h⟩ := rb h
  obtain ⟨_, _, h4, h⟩ := rb h
  obtain ⟨_, _, h5, h⟩ := rb h
  obtain ⟨_, _, h6, h⟩ := rb h
  obtain ⟨_, _, h7, h⟩ := rb h
  obtain ⟨_, _, h8, h⟩ := rb h
  obtain ⟨_, _, h9, h⟩ := rb h
  cases h
  have g1 := ti h1
  have g2 := tr h2
  have g3 := tr h3
  have g4 := tr h4
  have g5 := rlist_len eats_take h5
  have g6 := tw h6
  have g7 := tw h7
  have g8 := rlist_len eats_take h8
  have g9 := rlist_len eats_byteP h9
  refine ⟨?_, ?_, ?_⟩ <;> dsimp only <;> omega

theorem decode_same {l : List Int} (hb : byt l) (hl : l.length ≤ 1048576) : ∃ r, codec_DecodeReply l = some r ∧ ref27_DecodeReply l = some r ∧ (r.2 = 0 → RepOk r.1) := by
  obtain ⟨r, h1, h2⟩ := codec_decode_rep hb hl
  obtain ⟨r', h3, h4⟩ := ref_decode_rep hb hl
  have e := dec_same sim_rep hb h2 h4
  subst e
  refine ⟨r, h1, h3, fun h0 => ?_⟩
  rcases h4 with ⟨a, ns, w, el, ep, rfl⟩ | ⟨rfl, _⟩
  · have := wr_len ns
    rw [el] at hl
    exact rep_ok (by omega) ep
  · exact absurd h0 (by decide)

theorem ref_bytes_any {l : List Int} (hl : l.length ≤ 1048576) : ∃ m, ref27_Bytes l = some m ∧ m.length = l.length + 1 := by
  unfold ref27_Bytes ref27_Bytes_l2
  refine loop_ind (f := fun s : List Int × Int => ref27_Bytes_l2s l s.1 s.2)
    (fun s => ∃ i : Nat, i ≤ l.length ∧ s.2 = (i : Int) ∧ s.1.length = i + 1) (fun s => l.length - s.2.toNat) (fun r => r.length = l.length + 1) ([(l.length : Int)], 0) ⟨0, by omega, rfl, rfl⟩ ?_
  rintro ⟨v, _⟩ ⟨i, hi, rfl, hv⟩
  dsimp only at hv ⊢
  unfold ref27_Bytes_l2s
  by_cases hlt : i < l.length
  · left
    rw [decide_eq_true (by omega), cond_true, idx_get hlt, Option.bind_some, ck_pos (by rw [decide_eq_true_eq, List.length_singleton]; omega)]
    refine ⟨_, rfl, ⟨i + 1, hlt, ?_, ?_⟩, ?_⟩
    · show w64 ((i : Int) + 1) = _
      rw [w64_id] <;> omega
    · show (v ++ [_]).length = _
      rw [List.length_append, List.length_singleton, hv]
    · show _ - (w64 ((i : Int) + 1)).toNat < _ - ((i : Int)).toNat
      rw [w64_id (by omega) (by omega)]
      omega
  · right
    rw [decide_eq_false (by omega), cond_false]
    exact ⟨_, rfl, by rw [hv]; omega⟩

theorem same_reply {r : api_Reply} (h : RepOk r) : ref27_SameReply r r = some true := by
  obtain ⟨h1, h2, h3⟩ := h
  obtain ⟨m, m1, m2⟩ := ref_bytes_any h3
  have key : ∃ ns, ref27_Reply r = some ns ∧ ns.length ≤ 1099511627776 := by
    unfold ref27_Reply
    rw [ref_list (by omega), ref_list (by omega), m1]
    simp only [Option.bind_some]
    rw [ck_pos (by rw [decide_eq_true_eq]; simp only [List.length_append, List.length_cons, List.length_nil]; omega), ck_pos (by rw [decide_eq_true_eq]; simp only [List.length_append, List.length_cons, List.length_nil]; omega),
      ck_pos (by rw [decide_eq_true_eq]; simp only [List.length_append, List.length_cons, List.length_nil]; omega), ck_pos (by rw [decide_eq_true_eq]; simp only [List.length_append, List.length_cons, List.length_nil]; omega)]
    refine ⟨_, rfl, ?_⟩
    simp only [List.length_append, List.length_cons, List.length_nil]
    omega
  obtain ⟨ns, n1, n2⟩ := key
  unfold ref27_SameReply
  rw [n1, Option.bind_some, Option.bind_some, same_numbers ns n2]
  rfl

theorem replies_loop {fs : List (List Int)} {rest : List Int} (hf : ∀ x ∈ fs, byt x ∧ x.length ≤ 3000) (hl : fs.length ≤ 3000) :
    ∃ r, script_Replies_l3 (fs, rest) [] 0 = some r ∧ ref30_Replies_l3 (fs, rest) [] 0 = some r ∧ r.1.length ≤ 3000 ∧ ∀ x ∈ r.1, RepOk x := by
  have hstep : ∀ (out : List api_Reply) (i : Int), ref30_Replies_l3s (fs, rest) out i = script_Replies_l3s (fs, rest) out i := by
    intro out i
    unfold ref30_Replies_l3s script_Replies_l3s
    cases hx : idx fs i with
    | none => rfl
    | some x =>
      have hm : x ∈ fs := List.mem_of_getElem? (idx_some hx).2
      obtain ⟨r, r1, r2, _⟩ := decode_same (hf x hm).1 (by have := (hf x hm).2; omega)
      rw [Option.bind_some, Option.bind_some, r1, r2]
  have heq : ref30_Replies_l3 (fs, rest) [] 0 = script_Replies_l3 (fs, rest) [] 0 := by
    unfold ref30_Replies_l3 script_Replies_l3
    simp only [hstep]
  rw [heq]
  have key : ∃ r, script_Replies_l3 (fs, rest) [] 0 = some r ∧ (r.1.length ≤ 3000 ∧ ∀ x ∈ r.1, RepOk x) := by
    unfold script_Replies_l3
    refine loop_ind (f := fun s : List api_Reply × Int => script_Replies_l3s (fs, rest) s.1 s.2)
      (fun s => ∃ i : Nat, i ≤ fs.length ∧ s.2 = (i : Int) ∧ s.1.length = i ∧ ∀ x ∈ s.1, RepOk x) (fun s => fs.length - s.2.toNat) (fun r => r.1.length ≤ 3000 ∧ ∀ x ∈ r.1, RepOk x) ([], 0) ⟨0, by omega, rfl, rfl, fun _ h => by cases h⟩ ?_
    rintro ⟨v, _⟩ ⟨i, hi, rfl, hv, hok⟩
    dsimp only at hv hok ⊢
    unfold script_Replies_l3s
    dsimp only
    by_cases hlt : i < fs.length
    · have hm := hf fs[i] (List.getElem_mem hlt)
      obtain ⟨r, r1, _, r3⟩ := decode_same hm.1 (by have := hm.2; omega)
      rw [decide_eq_true (by omega), cond_true, idx_get hlt, Option.bind_some, r1, Option.bind_some]
      by_cases h0 : r.2 = 0
      · left
        rw [h0, bne_self_eq_false, cond_false, ck_pos (by rw [decide_eq_true_eq, List.length_singleton]; omega)]
        refine ⟨_, rfl, ⟨i + 1, hlt, ?_, ?_, ?_⟩, ?_⟩
        · show w64 ((i : Int) + 1) = _
          rw [w64_id] <;> omega
        · show (v ++ [_]).length = _
          rw [List.length_append, List.length_singleton, hv]
        · show ∀ x ∈ v ++ [r.1], RepOk x
          intro x hx
          rcases List.mem_append.1 hx with h | h
          · exact hok x h
          · simp only [List.mem_singleton] at h
            rw [h]
            exact r3 h0
        · show _ - (w64 ((i : Int) + 1)).toNat < _ - ((i : Int)).toNat
          rw [w64_id (by omega) (by omega)]
          omega
      · right
        have hc : (r.2 != 0) = true := by rw [bne_iff_ne]; exact h0
        rw [hc, cond_true]
        exact ⟨_, rfl, Nat.zero_le _, fun _ h => by cases h⟩
    · right
      rw [decide_eq_false (by omega), cond_false]
      exact ⟨_, rfl, (show v.length ≤ 3000 by omega), hok⟩
  obtain ⟨r, h1, h2, h3⟩ := key
  exact ⟨r, h1, h1, h2, h3⟩

theorem law30_ScriptReplies_true (p0 : List Int) (h0 : wfL (wfI .u8) p0) : law30_ScriptReplies p0 = some true := by
  unfold law30_ScriptReplies
  rw [law30_awake_true]
  by_cases hc : (p0.length : Int) > 3000
  · rw [decide_eq_true hc]; rfl
  · rw [decide_eq_false hc, cond_false]
    obtain ⟨q, q1, q2, q3⟩ := split_both (wfL_byt h0) (by omega)
    have key : ∃ r, script_Replies p0 = some r ∧ ref30_Replies p0 = some r ∧ r.1.length ≤ 3000 ∧ ∀ x ∈ r.1, RepOk x := by
      unfold script_Replies ref30_Replies
      rw [q1, q2, Option.bind_some, Option.bind_some]
      by_cases hr : (q.2.length : Int) > 0
      · rw [decide_eq_true hr]
        exact ⟨_, rfl, rfl, Nat.zero_le _, fun _ h => by cases h⟩
      · rw [decide_eq_false hr, cond_false, cond_false]
        have := q3.len
        exact replies_loop (fs := q.1) (rest := q.2) (fun x hx => ⟨(q3.fr x hx).1, by have := (q3.fr x hx).2; omega⟩) (by omega)
    obtain ⟨r, r1, r2, r3, r4⟩ := key
    rw [r1, r2, Option.bind_some, Option.bind_some, bne_self_eq_false, bne_self_eq_false, Bool.or_self, cond_false]
    unfold law30_ScriptReplies_l4
    have hany : (List.range r.1.length).any (fun _ => false) = false := by rw [List.any_eq_false]; simp
    have hL : loop (fun s : Int => law30_ScriptReplies_l4s r r s) 0 = cond ((List.range r.1.length).any fun _ => false) (some false) (some true) := by
      refine loop_all (fun j hj => ?_) ?_
      · unfold law30_ScriptReplies_l4s
        rw [decide_eq_true (by omega), cond_true, idx_get hj, Option.bind_some, Option.bind_some, same_reply (r4 _ (List.getElem_mem hj)), Option.bind_some, w64_id (by omega) (by omega)]
        rfl
      · unfold law30_ScriptReplies_l4s
        rw [decide_eq_false (by omega), cond_false, law30_awake_true]
        rfl
    rw [hL, hany]
    rfl

end Go.Win

