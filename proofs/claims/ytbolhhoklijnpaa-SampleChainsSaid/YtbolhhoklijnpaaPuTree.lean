/- Pu: chapter 18: an item's outcome as a tree of draws. -/
import Derived.Test.YtbolhhoklijnpaaPu18
namespace Go.Win
open Go.Vc Go.Dec

/-- A tree of draws: done, or a draw below m and what becomes of it. -/
inductive DT (R : Type) where
  | done (r : R)
  | ask (m : Int) (k : Int → DT R)

/-- What a run says: done at a place, a draw wanted below m at a place behind the draws, or a draw out of range. -/
inductive RR (R : Type) where
  | ok (r : R) (a : Nat)
  | need (m : Int) (a : Nat)
  | bad (m : Int) (a : Nat)

def run {R : Type} : DT R → List Int → Nat → RR R
  | .done r, _, a => .ok r a
  | .ask m k, ds, a => match ds[a]? with
    | none => .need m a
    | some d => if 0 ≤ d ∧ d < m then run (k d) ds (a + 1) else .bad m a

/-- The tree that is left when these draws are used up, all of them in range. -/
def after {R : Type} : DT R → List Int → Option (DT R)
  | t, [] => some t
  | .done _, _ :: _ => none
  | .ask m k, d :: ds => if 0 ≤ d ∧ d < m then after (k d) ds else none

def fits {R : Type} : Nat → DT R → Prop
  | _, .done _ => True
  | 0, .ask _ _ => False
  | n + 1, .ask m k => 1 ≤ m ∧ ∀ d, 0 ≤ d → d < m → fits n (k d)

def bindT {R S : Type} : DT R → (R → DT S) → DT S
  | .done r, f => f r
  | .ask m k, f => .ask m fun d => bindT (k d) f

def bindR {R S : Type} (x : RR R) (f : R → Nat → RR S) : RR S := match x with
  | .ok r a => f r a
  | .need m a => .need m a
  | .bad m a => .bad m a

theorem run_askE {R : Type} (m : Int) (k : Int → DT R) (ds : List Int) (a : Nat) : run (.ask m k) ds a = match ds[a]? with
    | none => .need m a
    | some d => if 0 ≤ d ∧ d < m then run (k d) ds (a + 1) else .bad m a := by
  simp only [run]


theorem run_bind {R S : Type} (f : R → DT S) (ds : List Int) (t : DT R) : ∀ a, run (bindT t f) ds a = bindR (run t ds a) fun r a' => run (f r) ds a' := by
  induction t with
  | done r => intro a; rfl
  | ask m k ih =>
    intro a
    rw [run_askE]
    show run (.ask m fun d => bindT (k d) f) ds a = _
    rw [run_askE]
    cases hd : ds[a]? with
    | none => rfl
    | some d =>
      simp only
      split
      · exact ih d (a + 1)
      · rfl

theorem run_after {R : Type} : ∀ (ds : List Int) (t t' : DT R) (pre : List Int), after t ds = some t' → run t (pre ++ ds) pre.length = run t' (pre ++ ds) (pre ++ ds).length
  | [], t, t', pre, h => by
    unfold after at h
    cases t <;> (simp at h; subst h; simp)
  | d :: ds, .done r, t', pre, h => by simp [after] at h
  | d :: ds, .ask m k, t', pre, h => by
    unfold after at h
    split at h
    · rename_i hc
      have := run_after ds (k d) t' (pre ++ [d]) h
      simp only [List.append_assoc, List.cons_append, List.nil_append, List.length_append, List.length_cons, List.length_nil, Nat.zero_add] at this
      rw [show run (.ask m k) (pre ++ d :: ds) pre.length = run (k d) (pre ++ d :: ds) (pre.length + 1) by
        conv => lhs; unfold run
        have hg : (pre ++ d :: ds)[pre.length]? = some d := by simp
        rw [hg]
        simp only [if_pos hc]]
      rw [this]
      simp only [List.length_append, List.length_cons]
    · cases h

theorem run_done {R : Type} {t : DT R} {ds : List Int} {r : R} (h : after t ds = some (.done r)) : run t ds 0 = .ok r ds.length := by
  have := run_after ds t _ [] h
  simp only [List.nil_append, List.length_nil] at this
  rw [this]; rfl
theorem run_ask {R : Type} {t : DT R} {ds : List Int} {m : Int} {k : Int → DT R} (h : after t ds = some (.ask m k)) : run t ds 0 = .need m ds.length := by
  have := run_after ds t _ [] h
  simp only [List.nil_append, List.length_nil] at this
  rw [this]
  unfold run
  rw [List.getElem?_eq_none (Nat.le_refl _)]

theorem after_append {R : Type} : ∀ (ds : List Int) (t t' : DT R) (d : Int), after t ds = some t' → after t (ds ++ [d]) = after t' [d]
  | [], t, t', d, h => by
    unfold after at h
    cases t <;> (simp at h; subst h; rfl)
  | e :: ds, .done r, t', d, h => by simp [after] at h
  | e :: ds, .ask m k, t', d, h => by
    unfold after at h
    split at h
    · rename_i hc
      have := after_append ds (k e) t' d h
      show after (.ask m k) (e :: (ds ++ [d])) = _
      conv => lhs; unfold after
      rw [if_pos hc, this]
    · cases h

theorem after_fits {R : Type} : ∀ (ds : List Int) (n : Nat) (t t' : DT R), fits n t → after t ds = some t' → ds.length ≤ n ∧ fits (n - ds.length) t'
  | [], n, t, t', hf, h => by
    unfold after at h
    cases t <;> (simp at h; subst h; simp; exact hf)
  | d :: ds, n, .done r, t', hf, h => by simp [after] at h
  | d :: ds, 0, .ask m k, t', hf, h => by simp [fits] at hf
  | d :: ds, n + 1, .ask m k, t', hf, h => by
    unfold after at h
    split at h
    · rename_i hc
      have := after_fits ds n (k d) t' (hf.2 d hc.1 hc.2) h
      simp only [List.length_cons]
      refine ⟨by omega, ?_⟩
      rw [show n + 1 - (ds.length + 1) = n - ds.length by omega]
      exact this.2
    · cases h

theorem fits_bind {R S : Type} (f : R → DT S) (j : Nat) (hf : ∀ r, fits j (f r)) : ∀ (n : Nat) (t : DT R), fits n t → fits (n + j) (bindT t f)
  | n, .done r, _ => by
    have mono : ∀ (t : DT S) (a b : Nat), a ≤ b → fits a t → fits b t := by
      intro t
      induction t with
      | done r => intro a b _ _; cases b <;> trivial
      | ask m k ih =>
        intro a b hab h
        cases a with
        | zero => exact h.elim
        | succ a =>
          cases b with
          | zero => omega
          | succ b => exact ⟨h.1, fun d h0 h1 => ih d a b (by omega) (h.2 d h0 h1)⟩
    exact mono _ j _ (by omega) (hf r)
  | 0, .ask m k, h => h.elim
  | n + 1, .ask m k, h => by
    show fits (n + 1 + j) (.ask m _)
    rw [show n + 1 + j = (n + j) + 1 by omega]
    exact ⟨h.1, fun d h0 h1 => fits_bind f j hf n (k d) (h.2 d h0 h1)⟩

/-! ### One item for one chain -/

/-- The chain behind the item: with these links, a new one where it is taken. -/
def tkT (x : api_Chain) (v : Int) (links : List api_Link) : Bool → DT (Option api_Chain)
  | false => .done (some ⟨x.W, x.Cap, x.I + 1, x.Next, links⟩)
  | true => if ((links ++ [api_Link.mk (x.I + 1) v]).length : Int) > x.Cap then .done none else
      .ask x.W fun d => .done (some ⟨x.W, x.Cap, x.I + 1, x.I + 1 + 1 + d, links ++ [api_Link.mk (x.I + 1) v]⟩)

def tknB (x : api_Chain) : Bool := decide (x.I > 0) && (x.Next == x.I + 1)

/-- Does the first link fall out? -/
def expB (x : api_Chain) : Bool := match x.Links with
  | [] => false
  | l :: _ => l.I == x.I + 1 - x.W

def treeC (x : api_Chain) (v : Int) : DT (Option api_Chain) :=
  if expB x then tkT x v (x.Links.drop 1) (tknB x) else
    .ask (if x.I + 1 ≤ x.W then x.I + 1 else x.W) fun d => if d = 0 then tkT x v [] true else tkT x v x.Links (tknB x)

theorem fits_tk (x : api_Chain) (hW : 1 ≤ x.W) (v : Int) (links : List api_Link) (b : Bool) : fits 1 (tkT x v links b) := by
  cases b with
  | false => trivial
  | true =>
    unfold tkT
    by_cases h : ((links ++ [api_Link.mk (x.I + 1) v]).length : Int) > x.Cap
    · rw [if_pos h]; trivial
    · rw [if_neg h]; exact ⟨hW, fun d _ _ => trivial⟩

theorem fits_tree (x : api_Chain) (hW : 1 ≤ x.W) (hI : 0 ≤ x.I) (v : Int) : fits 2 (treeC x v) := by
  have up : ∀ t : DT (Option api_Chain), fits 1 t → fits 2 t := by
    intro t h
    cases t with
    | done r => trivial
    | ask m k =>
      refine ⟨h.1, fun d h0 h1 => ?_⟩
      have := h.2 d h0 h1
      cases hk : k d with
      | done r => trivial
      | ask m' k' => rw [hk] at this; exact this.elim
  unfold treeC
  split
  · exact up _ (fits_tk x hW v _ _)
  · refine ⟨by split <;> omega, fun d _ _ => ?_⟩
    show fits 1 (if d = 0 then _ else _)
    split
    · exact fits_tk x hW v _ _
    · exact fits_tk x hW v _ _

def zeroC : api_Chain := ⟨0, 0, 0, 0, []⟩

def outS : RR (Option api_Chain) → Option (api_Chain × Int × Int × Int)
  | .ok (some c) a => some (c, (a : Int), 0, 0)
  | .ok none _ => some (zeroC, 0, 0, 9)
  | .need m a => some (zeroC, (a : Int), m, 8)
  | .bad m a => some (zeroC, (a : Int), m, 8)

/-- A draw at a place. -/
theorem nextS_at (ds : List Int) (a : Nat) (m : Int) (hm : 1 ≤ m) (hd : ds.length ≤ maxLen) :
    nextS ds (a : Int) m = match ds[a]? with
      | none => (0, 0, 8)
      | some d => if 0 ≤ d ∧ d < m then (d, ((a + 1 : Nat) : Int), 0) else (0, 0, 8) := by
  unfold nextS
  rw [if_neg (by omega), Int.toNat_natCast]
  cases h : ds[a]? with
  | none => rfl
  | some d =>
    have ha := (List.getElem?_eq_some_iff.1 h).1
    simp only
    by_cases hc : 0 ≤ d ∧ d < m
    · rw [if_pos hc, if_neg (by omega), succ_nat ha hd]; rfl
    · rw [if_neg hc, if_pos (by omega)]

theorem j4_run (x : api_Chain) (v : Int) (ds : List Int) (a : Nat) (links : List api_Link) (b : Bool) (hd : ds.length ≤ maxLen) (hI : 0 ≤ x.I) (hI2 : x.I < 1099511627776) (hW : 1 ≤ x.W) (hW2 : x.W ≤ 1048576) (hl : links.length ≤ 64) :
    ref18_step_j4 x v ds (a : Int) links b = outS (run (tkT x v links b) ds a) := by
  have e1 : w64 (x.I + 1) = x.I + 1 := by rw [w64_id] <;> omega
  have e2 : w64 (x.I + 1 + 1) = x.I + 1 + 1 := by rw [w64_id] <;> omega
  unfold ref18_step_j4
  cases b with
  | false =>
    rw [cond_false]
    unfold ref18_step_j7
    rw [e1]
    rfl
  | true =>
    rw [cond_true, e1, e2]
    have hk : decide ((links.length + [(api_Link.mk (x.I + 1) v)].length) * 16 ≤ 140737488355328) = true := by
      rw [decide_eq_true_eq, List.length_singleton]; omega
    rw [hk, ck_true]
    unfold tkT
    by_cases hc : ((links ++ [(api_Link.mk (x.I + 1) v)]).length : Int) > x.Cap
    · rw [decide_eq_true hc, if_pos hc]; rfl
    · rw [decide_eq_false hc, if_neg hc, cond_false, ref_next, nextS_at ds a x.W hW hd]
      simp only [Option.bind_some]
      unfold run
      cases h : ds[a]? with
      | none => rfl
      | some d =>
        simp only
        by_cases hr : 0 ≤ d ∧ d < x.W
        · rw [if_pos hr, if_pos hr]
          have e3 : w64 (x.I + 1 + 1 + d) = x.I + 1 + 1 + d := by rw [w64_id] <;> omega
          simp only [bne_self_eq_false, cond_false, e3]
          unfold ref18_step_j7
          rw [e1]
          rfl
        · rw [if_neg hr, if_neg hr]; rfl

theorem step_run (x : api_Chain) (v : Int) (ds : List Int) (a : Nat) (hv : ref09_Value v = true) (hd : ds.length ≤ maxLen) (hI : 0 ≤ x.I) (hI2 : x.I < 1099511627776) (hW : 1 ≤ x.W) (hW2 : x.W ≤ 1048576) (hl : x.Links.length ≤ 64) :
    ref18_step x v ds (a : Int) = outS (run (treeC x v) ds a) := by
  have e1 : w64 (x.I + 1) = x.I + 1 := by rw [w64_id] <;> omega
  have e2 : w64 (x.I + 1 - x.W) = x.I + 1 - x.W := by rw [w64_id] <;> omega
  have im : imin (x.I + 1) x.W = if x.I + 1 ≤ x.W then x.I + 1 else x.W := by
    unfold imin; split <;> split <;> omega
  have c1 : decide ((a : Int) < 0) = false := by rw [decide_eq_false_iff_not]; omega
  have c2 : (x.I == 1099511627776) = false := by rw [beq_eq_false_iff_ne]; omega
  have hk : decide ((([] : List api_Link).length + x.Links.length) * 16 ≤ 140737488355328) = true := by
    rw [decide_eq_true_eq, List.length_nil]; omega
  unfold ref18_step
  simp only [hv, Bool.not_true, cond_false, c1, c2, hk, ck_true, List.nil_append, e1, e2, im]
  have tk : (decide (x.I > 0) && (x.Next == x.I + 1)) = tknB x := rfl
  rw [tk]
  have nx : 1 ≤ (if x.I + 1 ≤ x.W then x.I + 1 else x.W) := by split <;> omega
  unfold treeC
  cases hL : x.Links with
  | nil =>
    have ex : expB x = false := by unfold expB; rw [hL]
    rw [ex]
    simp only [List.length_nil, Int.ofNat_zero, Int.lt_irrefl, gt_iff_lt, decide_false, gd_false, Option.bind_some, Bool.false_and, cond_false, Bool.false_eq_true, if_false]
    rw [ref_next, nextS_at ds a _ nx hd]
    simp only [Option.bind_some]
    conv => rhs; unfold run
    cases h : ds[a]? with
    | none => rfl
    | some d =>
      simp only
      by_cases hr : 0 ≤ d ∧ d < (if x.I + 1 ≤ x.W then x.I + 1 else x.W)
      · rw [if_pos hr, if_pos hr]
        simp only [bne_self_eq_false, cond_false]
        by_cases hz : d = 0
        · subst hz
          simp only [beq_self_eq_true, cond_true, if_true]
          exact j4_run x v ds (a + 1) [] true hd hI hI2 hW hW2 (by simp)
        · have c3 : (d == 0) = false := by rw [beq_eq_false_iff_ne]; exact hz
          rw [c3, cond_false, if_neg hz]
          exact j4_run x v ds (a + 1) [] (tknB x) hd hI hI2 hW hW2 (by simp)
      · rw [if_neg hr, if_neg hr]; rfl
  | cons l ls =>
    have c4 : decide ((((l :: ls).length : Nat) : Int) > 0) = true := by rw [decide_eq_true_eq, List.length_cons]; omega
    have i0 : idx (l :: ls) 0 = some l := rfl
    have ex : expB x = (l.I == x.I + 1 - x.W) := by unfold expB; rw [hL]
    rw [ex]
    simp only [c4, gd_true, i0, Option.bind_some, Bool.true_and]
    rw [hL] at hl
    cases he : (l.I == x.I + 1 - x.W) with
    | true =>
      have hk2 : decide ((0:Int) ≤ 1 ∧ (1:Int) ≤ ((l :: ls).length : Int)) = true := by rw [decide_eq_true_eq, List.length_cons]; omega
      rw [cond_true, hk2, ck_true]
      simp only [if_true]
      exact j4_run x v ds a _ (tknB x) hd hI hI2 hW hW2 (by simp at hl ⊢; omega)
    | false =>
      rw [cond_false, ref_next, nextS_at ds a _ nx hd]
      simp only [Option.bind_some, Bool.false_eq_true, if_false]
      conv => rhs; unfold run
      cases h : ds[a]? with
      | none => rfl
      | some d =>
        simp only
        by_cases hr : 0 ≤ d ∧ d < (if x.I + 1 ≤ x.W then x.I + 1 else x.W)
        · rw [if_pos hr, if_pos hr]
          simp only [bne_self_eq_false, cond_false]
          by_cases hz : d = 0
          · subst hz
            simp only [beq_self_eq_true, cond_true, if_true]
            exact j4_run x v ds (a + 1) [] true hd hI hI2 hW hW2 (by simp)
          · have c3 : (d == 0) = false := by rw [beq_eq_false_iff_ne]; exact hz
            rw [c3, cond_false, if_neg hz]
            exact j4_run x v ds (a + 1) (l :: ls) (tknB x) hd hI hI2 hW hW2 hl
        · rw [if_neg hr, if_neg hr]; rfl

end Go.Win
