/- Vc, part 25: verification conditions of code. -/
import Derived.Test.YtfnkbbeeilpiiaaVc24
import Derived.Deep.LoopGhost
namespace Go.Vc
open Go.RowKit

/-- What a loop, or a place where ways meet, holds: a family of states, which of them, and a number that every round lowers. -/
structure Inv where
  α : Type
  st : α → St
  φ : α → Prop
  μ : α → Nat

abbrev KT := Exit → Nat → St → Prop

def exits (id : Nat) : Code → Nat
  | .exit i => match Nat.beq i id with
    | true => 1
    | false => 0
  | .seq a b => exits id a + exits id b
  | .cond _ a b => exits id a + exits id b
  | .block _ c => exits id c
  | .loop c => exits id c
  | _ => 0

/-- In how many ways a piece of code is left at its end. -/
def ways : Code → Nat
  | .skip => 1
  | .region _ _ _ => 1
  | .seq a b => ways a * ways b
  | .cond _ a b => ways a + ways b
  | .block id c => ways c + exits id c
  | _ => 0

def joins : Code → Bool
  | .seq _ b => Nat.ble 2 (ways b)
  | a => Nat.ble 2 (ways a)

abbrev VT := Nat → St → KT → Prop

noncomputable def vcRegion (P : Program) (T : Tab) (id : Nat) (ops : Array Oper) (draw : Bool) : VT := fun nx st K =>
  match Nat.ble nx (256 * id) && Nat.ble ops.toList.length 256 with
  | true => match draw with
    | false => vcOps P T (256 * id) ops.toList 0 ops.toList st fun st' => K .normal (256 * id + 256) st'
    | true => vcDraw P T (256 * id) ops.toList 0 ops.toList [] st fun st' => K .normal (256 * id + 256) st'
  | false => False

noncomputable def vcSeq (m : Nat) (jn : Bool) (va vb : VT) : VT := fun nx st K =>
  match jn with
  | false => va nx st fun e nx' st' => match e with
    | .normal => vb nx' st' K
    | e => K e nx' st'
  | true => ∃ j : Option (Inv × Nat), match j with
    | none => va nx st fun e nx' st' => match e with
      | .normal => vb nx' st' K
      | e => K e nx' st'
    | some (I, n) => va nx st (fun e nx' st' => match e with
      | .normal => ∃ ρ x, I.φ x ∧ Wk m n ρ (St.get st') (I.st x)
      | e => K e nx' st') ∧ ∀ x, I.φ x → vb n (I.st x) K

noncomputable def vcCond (c : Operand) (vx vy : VT) : VT := fun nx st K =>
  match c with
  | .tmp d => match AS.tmp (St.get st) d with
    | .bool true => vx nx st K
    | .bool false => vy nx st K
    | .sb b => (b = true → vx nx ((.tmp d, .av (.bool true)) :: st) K) ∧ (b = false → vy nx ((.tmp d, .av (.bool false)) :: st) K)
    | _ => False
  | _ => False

noncomputable def vcBlock (id : Nat) (vx : VT) : VT := fun nx st K =>
  vx nx st fun e nx' st' => match e with
    | .exit id' => match Nat.beq id' id with
      | true => K .normal nx' st'
      | false => K (.exit id') nx' st'
    | e => K e nx' st'

noncomputable def vcLoop (m : Nat) (vx : VT) : VT := fun nx st K =>
  ∃ I : Inv, (∃ ρ x, I.φ x ∧ Wk m nx ρ (St.get st) (I.st x)) ∧ ∀ x, I.φ x → vx nx (I.st x) fun e nx' st' => match e with
    | .normal => ∃ ρ x', I.φ x' ∧ (I.μ x' < I.μ x ∧ Wk m nx ρ (St.get st') (I.st x'))
    | e => K e nx' st'

noncomputable def vc (P : Program) (T : Tab) (m : Nat) (c : Code) : VT :=
  Code.rec (motive := fun _ => VT)
    (fun nx st K => K .normal nx st)
    (fun id ops draw => vcRegion P T id ops draw)
    (fun a _ iha ihb => vcSeq m (joins a) iha ihb)
    (fun c _ _ iha ihb => vcCond c iha ihb)
    (fun id _ ih => vcBlock id ih)
    (fun _ ih => vcLoop m ih)
    (fun _ _ _ _ _ _ _ _ _ => False)
    (fun id nx st K => K (.exit id) nx st)
    (fun _ _ _ _ _ => False)
    (fun _ _ _ _ => False)
    (fun _ _ _ _ => False)
    (fun nx st K => K .ret nx st)
    (fun _ _ _ _ => False) c

/-- What is asked of the code itself: it can be read off. -/
def okCode (N : Nat) : Code → Bool
  | .region _ ops false => dstsOk N ops.toList
  | .region _ ops true => dstsOk N ops.toList && Region.lexB .any ops
  | .seq a b => okCode N a && okCode N b
  | .cond _ a b => okCode N a && okCode N b
  | .block _ c => okCode N c
  | .loop c => okCode N c
  | _ => true

def sem (F : Fr) (K : KT) : Exit → Act → World → Prop := fun e a w => ∃ nx st A, StR F A (St.get st) a w ∧ (∀ k, A k → k < nx) ∧ K e nx st

theorem vc_sound {F : Fr} {T : Tab} (hT : TabOk F.P T) (hm : F.P.follows .mixedOrders = true) : ∀ (c : Code) (nx : Nat) (st : St) (K : KT), okCode F.N c = true → vc F.P T F.m c nx st K →
    ∀ a w A, StR F A (St.get st) a w → (∀ k, A k → k < nx) → c.wp F.P (sem F K) a w := by
  intro c
  induction c with
  | skip => intro nx st K _ h a w A hs hA; exact wp_skip ⟨nx, st, A, hs, hA, h⟩
  | region id ops draw =>
    intro nx st K hc h a w A hs hA
    cases draw with
    | false =>
      change vcRegion F.P T id ops false nx st K at h
      unfold vcRegion at h
      split at h
      · rename_i hb
        simp only [Bool.and_eq_true] at hb
        have hb1 := Nat.le_of_ble_eq_true hb.1
        have hb2 := Nat.le_of_ble_eq_true hb.2
        exact region_sound hT hc (fun st' a' w' A' hs' hA' hk => ⟨_, st', A', hs', fun k hk => by have := hA' k hk; omega, hk⟩) hs (fun k hk => by have := hA k hk; omega) h
      · exact h.elim
    | true =>
      simp only [okCode, Bool.and_eq_true] at hc
      change vcRegion F.P T id ops true nx st K at h
      unfold vcRegion at h
      split at h
      · rename_i hb
        simp only [Bool.and_eq_true] at hb
        have hb1 := Nat.le_of_ble_eq_true hb.1
        have hb2 := Nat.le_of_ble_eq_true hb.2
        exact draw_sound hT hm hc.1 hc.2 (fun st' a' w' A' hs' hA' hk => ⟨_, st', A', hs', fun k hk => by have := hA' k hk; omega, hk⟩) hs (fun k hk => by have := hA k hk; omega) h
      · exact h.elim
  | seq x y ihx ihy =>
    intro nx st K hc h a w A hs hA
    simp only [okCode, Bool.and_eq_true] at hc
    -- one after the other
    have direct : (vc F.P T F.m x nx st fun e nx' st' => match e with
      | .normal => vc F.P T F.m y nx' st' K
      | e => K e nx' st') → (Code.seq x y).wp F.P (sem F K) a w := by
      intro h
      apply wp_seq
      refine wp_mono (ihx nx st _ hc.1 h a w A hs hA) ?_
      rintro e a' w' ⟨nx', st', A', hs', hA', hk⟩
      cases e with
      | normal => exact ihy nx' st' K hc.2 hk a' w' A' hs' hA'
      | _ => exact ⟨nx', st', A', hs', hA', hk⟩
    change vcSeq F.m (joins x) (vc F.P T F.m x) (vc F.P T F.m y) nx st K at h
    unfold vcSeq at h
    split at h
    · exact direct h
    · obtain ⟨j, h⟩ := h
      split at h
      · exact direct h
      · rename_i I n
        obtain ⟨h1, h2⟩ := h
        apply wp_seq
        refine wp_mono (ihx nx st _ hc.1 h1 a w A hs hA) ?_
        rintro e a' w' ⟨nx', st', A', hs', hA', hk⟩
        cases e with
        | normal =>
          obtain ⟨ρ, x, hx, hw⟩ := hk
          exact ihy n (I.st x) K hc.2 (h2 x hx) a' w' _ (wk_sound hs' hw) (fun _ h => h)
        | _ => exact ⟨nx', st', A', hs', hA', hk⟩
  | cond c x y ihx ihy =>
    intro nx st K hc h a w A hs hA
    simp only [okCode, Bool.and_eq_true] at hc
    change vcCond c (vc F.P T F.m x) (vc F.P T F.m y) nx st K at h
    cases c <;> try exact h.elim
    rename_i d
    simp only [vcCond] at h
    have ev : ∀ b, boolOf (AS.tmp (St.get st) d) = some b → a.eval (.tmp d) = .bool b := fun b hb => by
      have := hs.gval d b hb
      simp [Act.eval, this]
    split at h
    · rename_i hd
      exact wp_cond_true (ev true (by rw [hd]; rfl)) (ihx nx st K hc.1 h a w A hs hA)
    · rename_i hd
      exact wp_cond_false (ev false (by rw [hd]; rfl)) (ihy nx st K hc.2 h a w A hs hA)
    · rename_i b hd
      refine wp_cond_split (ev b (by rw [hd]; rfl)) (fun hb => ?_) (fun hb => ?_)
      · subst hb
        exact ihx nx _ K hc.1 (h.1 rfl) a w A (hs.lit d true hd) hA
      · subst hb
        exact ihy nx _ K hc.2 (h.2 rfl) a w A (hs.lit d false hd) hA
    · exact h.elim
  | block id x ih =>
    intro nx st K hc h a w A hs hA
    apply wp_block
    refine wp_mono (ih nx st _ hc h a w A hs hA) ?_
    rintro e a' w' ⟨nx', st', A', hs', hA', hk⟩
    cases e with
    | exit id' =>
      simp only at hk
      show if id' = id then _ else _
      split at hk
      · rename_i hb
        rw [if_pos (Nat.eq_of_beq_eq_true hb)]
        exact ⟨nx', st', A', hs', hA', hk⟩
      · rename_i hb
        rw [if_neg (fun he => by subst he; rw [nbeq_self] at hb; cases hb)]
        exact ⟨nx', st', A', hs', hA', hk⟩
    | _ => exact ⟨nx', st', A', hs', hA', hk⟩
  | loop x ih =>
    intro nx st K hc h a w A hs hA
    obtain ⟨I, ⟨ρ, x0, h1, h2⟩, h3⟩ := h
    refine wp_loop_ghost (fun n a w => ∃ x, I.φ x ∧ I.μ x = n ∧ StR F (fun k => k < nx) (St.get (I.st x)) a w) (I.μ x0) ⟨x0, h1, rfl, wk_sound hs h2⟩ ?_
    rintro n a w ⟨x, hx, rfl, hs⟩
    refine wp_mono (ih nx _ _ hc (h3 x hx) a w _ hs (fun _ h => h)) ?_
    rintro e a' w' ⟨nx', st', A', hs', hA', hk⟩
    cases e with
    | normal =>
      obtain ⟨ρ, x', g1, g2, g3⟩ := hk
      exact ⟨I.μ x', g2, x', g1, rfl, wk_sound hs' g3⟩
    | _ => exact ⟨nx', st', A', hs', hA', hk⟩
  | exit id => intro nx st K _ h a w A hs hA; exact wp_exit ⟨nx, st, A, hs, hA, h⟩
  | ret => intro nx st K _ h a w A hs hA; exact wp_ret ⟨nx, st, A, hs, hA, h⟩
  | _ => intro nx st K _ h; exact h.elim

end Go.Vc
