/- Vc, part 24: a state is held more weakly: rows are dropped, numbers turned, values forgotten. -/
import Derived.Test.YtfnkbbeeilpiiaaVc23
namespace Go.Vc
open Go.RowKit

/-- How numbers are turned: the new number, and the elder one behind it (none: an empty slice that has no row yet). -/
abbrev Turn := List (Nat × Option Nat)

def Turn.at : Turn → Nat → Option Nat
  | [], i => some i
  | (j, o) :: r, i => match Nat.beq i j with
    | true => o
    | false => Turn.at r i

def isAt (ρ : Turn) (i' i : Nat) : Bool := match Turn.at ρ i' with
  | some j => Nat.beq j i
  | none => false

def isNil (ρ : Turn) (i' : Nat) : Bool := match Turn.at ρ i' with
  | some _ => false
  | none => true

def kindEq (k k' : IntKind) : Bool := decide (k = k')

def wkC (ρ : Turn) (nx : Nat) (v v' : AV) (K : Prop) : Prop := match v' with
  | .junk => K
  | .int k' n' => match v with
    | .int k n => match kindEq k k' with
      | true => n = n' ∧ K
      | false => False
    | _ => False
  | .bool b' => match boolOf v with
    | some b => b = b' ∧ K
    | none => False
  | .sb b' => match boolOf v with
    | some b => b = b' ∧ K
    | none => False
  | .lst sz' f' xs' => match v with
    | .lst sz f xs => match Nat.beq sz sz' with
      | true => (f' = true → f = true) ∧ (xs = xs' ∧ K)
      | false => False
    | .nilS => xs' = [] ∧ K
    | _ => False
  | .own t' => match v with
    | .own t => match isAt ρ t' t && Nat.blt t' nx with
      | true => K
      | false => False
    | .nilS => match isNil ρ t' && Nat.blt t' nx with
      | true => K
      | false => False
    | _ => False
  | .ptr i' o' => match v with
    | .ptr i o => match isAt ρ i' i && (Nat.blt i' nx && Nat.beq o o') with
      | true => K
      | false => False
    | _ => False
  | .rp cs' => match v with
    | .rp cs => cs = cs' ∧ K
    | _ => False
  | .fn f' => match v with
    | .fn f => match Nat.beq f f' with
      | true => K
      | false => False
    | _ => False
  | .nilp => match v with
    | .nilp => K
    | _ => False
  | .nilS => match v with
    | .nilS => K
    | _ => False
  | _ => False

def wkL (ρ : Turn) (nx : Nat) : List AV → List AV → Prop → Prop
  | [], [], K => K
  | v :: vs, v' :: vs', K => wkC ρ nx v v' (wkL ρ nx vs vs' K)
  | _, _, _ => False

def wkV (ρ : Turn) (nx : Nat) (v v' : AV) (K : Prop) : Prop := match v' with
  | .agg cs' => match v with
    | .agg cs => wkL ρ nx cs cs' K
    | _ => False
  | v' => wkC ρ nx v v' K

/-- The rows of the weaker state. -/
def wkR (m nx : Nat) (ρ : Turn) (s : AS) : St → Prop
  | [] => True
  | (.tmp d, .av v') :: r => wkV ρ nx (s.tmp d) v' (wkR m nx ρ s r)
  | (.box i', .box cs') :: r => match Turn.at ρ i' with
    | some i => match s (.box i) with
      | .box cs => match Nat.blt i' nx && (Nat.beq i i' || (Nat.ble m i && Nat.ble m i')) with
        | true => wkL ρ nx cs cs' (wkR m nx ρ s r)
        | false => False
      | _ => False
    | none => False
  | (.tok t', .tok e' sz' xs') :: r => match Nat.blt t' nx with
    | true => match Turn.at ρ t' with
      | some t => match s (.tok t) with
        | .tok e sz xs => match Nat.beq e e' && Nat.beq sz sz' with
          | true => xs = xs' ∧ wkR m nx ρ s r
          | false => False
        | _ => False
      | none => match Nat.blt 0 sz' with
        | true => xs' = [] ∧ wkR m nx ρ s r
        | false => False
    | false => False
  | (.tmp _, .none) :: r => wkR m nx ρ s r
  | (.box _, .none) :: r => wkR m nx ρ s r
  | (.tok _, .none) :: r => wkR m nx ρ s r
  | _ => False

def boxKeys : St → List Nat
  | [] => []
  | (.box i, _) :: r => i :: boxKeys r
  | (.tmp _, _) :: r => boxKeys r
  | (.tok _, _) :: r => boxKeys r

def tokKeys : St → List Nat
  | [] => []
  | (.tok i, _) :: r => i :: tokKeys r
  | (.tmp _, _) :: r => tokKeys r
  | (.box _, _) :: r => tokKeys r

def optEq : Option Nat → Option Nat → Bool
  | some a, some b => Nat.beq a b
  | _, _ => false

def inj (ρ : Turn) (ks : List Nat) : Bool := ks.all fun i => ks.all fun j => Nat.beq i j || !optEq (Turn.at ρ i) (Turn.at ρ j)

def fixed (m : Nat) (ρ : Turn) : Bool := ρ.all fun p => Nat.ble m p.1

def Wk (m nx : Nat) (ρ : Turn) (s : AS) (st' : St) : Prop :=
  (inj ρ (boxKeys st') && (inj ρ (tokKeys st') && (fixed m ρ && Nat.ble m nx))) = true ∧ wkR m nx ρ s st'

theorem at_fixed {m : Nat} : ∀ {ρ : Turn}, fixed m ρ = true → ∀ j, j < m → Turn.at ρ j = some j
  | [], _, _, _ => rfl
  | (i, o) :: r, h, j, hj => by
    simp only [fixed, List.all_cons, Bool.and_eq_true] at h
    have h1 : m ≤ i := Nat.le_of_ble_eq_true h.1
    simp only [Turn.at, nbeq_ne (show j ≠ i by omega)]
    exact at_fixed h.2 j hj

theorem inj_spec {ρ : Turn} {ks : List Nat} (h : inj ρ ks = true) {i j a : Nat} (hi : i ∈ ks) (hj : j ∈ ks) (h1 : Turn.at ρ i = some a) (h2 : Turn.at ρ j = some a) : i = j := by
  have := List.all_eq_true.1 (List.all_eq_true.1 h i hi) j hj
  rw [h1, h2] at this
  simp only [optEq, nbeq_self, Bool.not_true, Bool.or_false] at this
  exact Nat.eq_of_beq_eq_true this

theorem keys_box : ∀ {st : St} {i : Nat} {cs : List AV}, St.get st (.box i) = .box cs → i ∈ boxKeys st
  | [], _, _, h => by cases h
  | (l, c) :: r, i, cs, h => by
    simp only [St.get] at h
    split at h
    · rename_i hb
      cases l <;> simp only [Loc.beq] at hb <;> try cases hb
      rw [Nat.eq_of_beq_eq_true hb]; simp [boxKeys]
    · have := keys_box (st := r) h
      cases l <;> simp [boxKeys, this]

theorem keys_tok : ∀ {st : St} {i : Nat} {e sz xs}, St.get st (.tok i) = .tok e sz xs → i ∈ tokKeys st
  | [], _, _, _, _, h => by cases h
  | (l, c) :: r, i, e, sz, xs, h => by
    simp only [St.get] at h
    split at h
    · rename_i hb
      cases l <;> simp only [Loc.beq] at hb <;> try cases hb
      rw [Nat.eq_of_beq_eq_true hb]; simp [tokKeys]
    · have := keys_tok (st := r) h
      cases l <;> simp [tokKeys, this]

section
variable {ρ : Turn} {nx : Nat}

theorem wkC_k {v v' : AV} {K : Prop} (h : wkC ρ nx v v' K) : K := by
  unfold wkC at h
  repeat' split at h
  all_goals first | exact h | exact h.2.2 | exact h.2 | exact h.elim

theorem wkL_k : ∀ {vs vs' : List AV} {K : Prop}, wkL ρ nx vs vs' K → K
  | [], [], _, h => h
  | v :: vs, v' :: vs', K, h => wkL_k (wkC_k h)
  | [], _ :: _, _, h => h.elim
  | _ :: _, [], _, h => h.elim

theorem wkV_k {v v' : AV} {K : Prop} (h : wkV ρ nx v v' K) : K := by
  unfold wkV at h
  repeat' split at h
  · exact wkL_k h
  · exact h.elim
  · exact wkC_k h

theorem wkL_get : ∀ {vs vs' : List AV} {K : Prop}, wkL ρ nx vs vs' K → vs.length = vs'.length ∧ ∀ (j : Nat) (v' : AV), vs'[j]? = some v' → ∃ v K', vs[j]? = some v ∧ wkC ρ nx v v' K'
  | [], [], _, h => by simp
  | v :: vs, v' :: vs', K, h => by
    obtain ⟨h1, h2⟩ := wkL_get (wkC_k h)
    refine ⟨by simp [h1], fun j x hj => ?_⟩
    cases j with
    | zero => cases hj; exact ⟨v, _, rfl, h⟩
    | succ j => simpa using h2 j x (by simpa using hj)
  | [], _ :: _, _, h => h.elim
  | _ :: _, [], _, h => h.elim

/-- The two memories. -/
structure WkM (ρ : Turn) (nx : Nat) (m m' : Mem) : Prop where
  w : m'.w = m.w
  ok : m'.ok = m.ok
  A : m'.A = fun i => i < nx
  beta : ∀ i' i, Turn.at ρ i' = some i → m'.β i' = m.β i
  tau : ∀ t' t, Turn.at ρ t' = some t → m'.τ t' = m.τ t
  tauN : ∀ t', Turn.at ρ t' = none → m'.τ t' = none
  tok : ∀ t' e sz xs, m'.s (.tok t') = .tok e sz xs → (∃ t, Turn.at ρ t' = some t ∧ m.s (.tok t) = .tok e sz xs) ∨ (Turn.at ρ t' = none ∧ xs = [] ∧ 0 < sz)
  box : ∀ i' cs', m'.s (.box i') = .box cs' → ∃ i cs, Turn.at ρ i' = some i ∧ m.s (.box i) = .box cs

theorem isAt_spec {i' i : Nat} (h : isAt ρ i' i = true) : Turn.at ρ i' = some i := by
  unfold isAt at h
  split at h
  · rename_i j hj; rw [hj, Nat.eq_of_beq_eq_true h]
  · cases h

theorem isNil_spec {i' : Nat} (h : isNil ρ i' = true) : Turn.at ρ i' = none := by
  unfold isNil at h
  split at h
  · cases h
  · assumption

theorem wkC_vr0 {m m' : Mem} (hm : WkM ρ nx m m') {v v' : AV} {K : Prop} {u : Value} (h : wkC ρ nx v v' K) (hv : VR0 m v u) : VR0 m' v' u := by
  unfold wkC at h
  split at h
  · trivial
  · split at h
    · split at h
      · rename_i hk
        obtain ⟨rfl, _⟩ := h
        have := of_decide_eq_true hk
        subst this
        exact hv
      · exact h.elim
    · exact h.elim
  · split at h
    · rename_i b hb
      obtain ⟨rfl, _⟩ := h
      cases v <;> simp only [boolOf] at hb <;> cases hb <;> exact hv
    · exact h.elim
  · split at h
    · rename_i b hb
      obtain ⟨rfl, _⟩ := h
      cases v <;> simp only [boolOf] at hb <;> cases hb <;> exact hv
    · exact h.elim
  · rename_i sz' f' xs'
    split at h
    · rename_i sz f xs
      split at h
      · rename_i hk
        obtain ⟨hff, rfl, _⟩ := h
        have hsz := Nat.eq_of_beq_eq_true hk
        subst hsz
        have hv' : PR m.w m.ok (.lst sz f xs) u := hv
        show PR m'.w m'.ok (.lst sz f' xs) u
        rw [hm.w, hm.ok]
        cases hv' with
        | lst _ _ _ a cap u' hcap hmax hfull hsz hnone hcell hrec =>
          exact .lst sz f' xs a cap u' hcap hmax (fun hf => hfull (hff hf)) hsz hnone hcell hrec
      · exact h.elim
    · obtain ⟨rfl, _⟩ := h
      have hv' : u = .slice none 0 0 := hv
      subst hv'
      show PR m'.w m'.ok (.lst sz' f' []) (.slice none 0 0)
      exact .lst sz' f' [] none 0 (fun _ _ => .bool false) (Nat.le_refl _) (by simp) (fun _ => rfl) (by simp) (fun _ => rfl) (fun i j c x hi => by simp at hi) (fun i j c x hi => by simp at hi)
    · exact h.elim
  · rename_i t'
    split at h
    · rename_i t
      split at h
      · rename_i hk
        simp only [Bool.and_eq_true] at hk
        have ht := isAt_spec hk.1
        refine ⟨by rw [hm.A]; exact blt_lt hk.2, hv.2.1, fun e sz xs hs => ?_⟩
        rcases hm.tok t' e sz xs hs with ⟨t2, h1, h2⟩ | ⟨h1, _⟩
        · rw [ht] at h1; cases h1
          rw [hm.tau t' t ht]
          exact hv.2.2 e sz xs h2
        · rw [ht] at h1; cases h1
      · exact h.elim
    · split at h
      · rename_i hk
        simp only [Bool.and_eq_true] at hk
        have ht := isNil_spec hk.1
        have hv' : u = .slice none 0 0 := hv
        refine ⟨by rw [hm.A]; exact blt_lt hk.2, by rw [hv']; rfl, fun e sz xs hs => ⟨fun _ => hv', fun b o cap hc => ?_⟩⟩
        rw [hm.tauN t' ht] at hc
        cases hc
      · exact h.elim
    · exact h.elim
  · rename_i i' o'
    split at h
    · rename_i i o
      split at h
      · rename_i hk
        simp only [Bool.and_eq_true] at hk
        have ht := isAt_spec hk.1
        have ho := Nat.eq_of_beq_eq_true hk.2.2
        subst ho
        refine ⟨by rw [hm.A]; exact blt_lt hk.2.1, hv.2.1, fun ⟨cs', hs⟩ => ?_⟩
        obtain ⟨i2, cs, h1, h2⟩ := hm.box i' cs' hs
        rw [ht] at h1; cases h1
        rw [hm.beta i' i ht]
        exact hv.2.2 ⟨cs, h2⟩
      · exact h.elim
    · exact h.elim
  · split at h
    · obtain ⟨rfl, _⟩ := h
      obtain ⟨ad, h1, h2, h3⟩ := hv
      exact ⟨ad, h1, h2, fun j x hj => by rw [hm.w, hm.ok]; exact h3 j x hj⟩
    · exact h.elim
  · split at h
    · split at h
      · rename_i hk
        rw [← Nat.eq_of_beq_eq_true hk]
        exact hv
      · exact h.elim
    · exact h.elim
  · split at h
    · exact hv
    · exact h.elim
  · split at h
    · exact hv
    · exact h.elim
  · exact h.elim

theorem wkV_vr1 {m m' : Mem} (hm : WkM ρ nx m m') {v v' : AV} {K : Prop} {u : Value} (h : wkV ρ nx v v' K) (hv : VR m v u) : VR1 m' v' u := by
  unfold wkV at h
  split at h
  · rename_i cs'
    split at h
    · rename_i cs
      obtain ⟨vs, h1, h2, h3⟩ := hv
      obtain ⟨g1, g2⟩ := wkL_get h
      refine ⟨vs, h1, by rw [h2, g1], fun j c' hj => ?_⟩
      obtain ⟨c, K', q1, q2⟩ := g2 j c' hj
      obtain ⟨u, p1, p2, p3⟩ := h3 j c q1
      exact ⟨u, p1, p2, wkC_vr0 hm q2 p3⟩
    · exact h.elim
  · rename_i hna
    by_cases hj : v' = .junk
    · subst hj; trivial
    have hv0 : VR0 m v u := by
      cases v with
      | agg cs => exfalso; unfold wkC at h; cases v' <;> simp [boolOf] at h <;> first | exact h.elim | exact hj rfl
      | tup cs => exfalso; unfold wkC at h; cases v' <;> simp [boolOf] at h <;> first | exact h.elim | exact hj rfl
      | _ => exact hv
    exact vr0_vr1 (wkC_vr0 hm h hv0)

theorem wkV_vr {m m' : Mem} (hm : WkM ρ nx m m') {v v' : AV} {K : Prop} {u : Value} (h : wkV ρ nx v v' K) (hv : VR m v u) : VR m' v' u := vr1_vr (wkV_vr1 hm h hv)

theorem wkR_get {m : Nat} {s : AS} : ∀ {st' : St}, wkR m nx ρ s st' →
    (∀ d v', St.get st' (.tmp d) = .av v' → ∃ K, wkV ρ nx (s.tmp d) v' K) ∧
    (∀ i' cs', St.get st' (.box i') = .box cs' → ∃ i cs K, Turn.at ρ i' = some i ∧ s (.box i) = .box cs ∧ i' < nx ∧ (i = i' ∨ (m ≤ i ∧ m ≤ i')) ∧ wkL ρ nx cs cs' K) ∧
    (∀ t' e sz xs, St.get st' (.tok t') = .tok e sz xs → t' < nx ∧ ((∃ t, Turn.at ρ t' = some t ∧ s (.tok t) = .tok e sz xs) ∨ (Turn.at ρ t' = none ∧ xs = [] ∧ 0 < sz)))
  | [], _ => ⟨fun _ _ h => (by cases h), fun _ _ h => (by cases h), fun _ _ _ _ h => (by cases h)⟩
  | (l, c) :: r, h => by
    have hr : wkR m nx ρ s r := by
      cases l <;> cases c <;> simp only [wkR] at h <;> (repeat' split at h)
      all_goals first | exact h.elim | exact wkL_k h | exact h.2 | exact h | exact wkV_k h
    obtain ⟨i1, i2, i3⟩ := wkR_get hr
    refine ⟨fun d v' hg => ?_, fun i' cs' hg => ?_, fun t' e sz xs hg => ?_⟩
    · simp only [St.get] at hg
      split at hg
      · rename_i hb
        cases l <;> simp only [Loc.beq] at hb <;> try cases hb
        have := Nat.eq_of_beq_eq_true hb
        subst this hg
        exact ⟨_, h⟩
      · exact i1 d v' hg
    · simp only [St.get] at hg
      split at hg
      · rename_i hb
        cases l <;> simp only [Loc.beq] at hb <;> try cases hb
        have := Nat.eq_of_beq_eq_true hb
        subst this hg
        simp only [wkR] at h
        split at h
        · rename_i i hi
          split at h
          · rename_i cs hcs
            split at h
            · rename_i hk
              simp only [Bool.and_eq_true, Bool.or_eq_true] at hk
              exact ⟨i, cs, _, hi, hcs, blt_lt hk.1, hk.2.imp (fun h => Nat.eq_of_beq_eq_true h) (fun h => ⟨Nat.le_of_ble_eq_true h.1, Nat.le_of_ble_eq_true h.2⟩), h⟩
            · exact h.elim
          · exact h.elim
        · exact h.elim
      · exact i2 i' cs' hg
    · simp only [St.get] at hg
      split at hg
      · rename_i hb
        cases l <;> simp only [Loc.beq] at hb <;> try cases hb
        have := Nat.eq_of_beq_eq_true hb
        subst this hg
        simp only [wkR] at h
        split at h
        · rename_i hlt
          refine ⟨blt_lt hlt, ?_⟩
          split at h
          · rename_i t ht
            split at h
            · rename_i hcs
              split at h
              · rename_i hk
                simp only [Bool.and_eq_true] at hk
                obtain ⟨rfl, _⟩ := h
                rw [← Nat.eq_of_beq_eq_true hk.1, ← Nat.eq_of_beq_eq_true hk.2]
                exact .inl ⟨t, ht, hcs⟩
              · exact h.elim
            · exact h.elim
          · rename_i ht
            split at h
            · rename_i hk
              exact .inr ⟨ht, h.1, blt_lt hk⟩
            · exact h.elim
        · exact h.elim
      · exact i3 t' e sz xs hg

theorem wk_sound {F : Fr} {A : Nat → Prop} {s : AS} {st' : St} {a : Act} {w : World} (h : StR F A s a w) (hw : Wk F.m nx ρ s st') : StR F (fun i => i < nx) (St.get st') a w := by
  obtain ⟨β, τ, ok, hx⟩ := h
  obtain ⟨hc, hr⟩ := hw
  simp only [Bool.and_eq_true] at hc
  obtain ⟨c1, c2, c3, c4⟩ := hc
  obtain ⟨r1, r2, r3⟩ := wkR_get hr
  let β' : Nat → Nat := fun i => match Turn.at ρ i with
    | some j => β j
    | none => 0
  let τ' : Nat → Option (Nat × Nat × Nat) := fun i => match Turn.at ρ i with
    | some j => τ j
    | none => none
  have hβ : ∀ i' i, Turn.at ρ i' = some i → β' i' = β i := fun i' i h => by simp only [β', h]
  have hτ : ∀ i' i, Turn.at ρ i' = some i → τ' i' = τ i := fun i' i h => by simp only [τ', h]
  have hτn : ∀ i', Turn.at ρ i' = none → τ' i' = none := fun i' h => by simp only [τ', h]
  have hM : WkM ρ nx ⟨s, β, τ, A, ok, w⟩ ⟨St.get st', β', τ', fun i => i < nx, ok, w⟩ := ⟨rfl, rfl, rfl, hβ, hτ, hτn, fun t' e sz xs h => (r3 t' e sz xs h).2, fun i' cs' h => by
    obtain ⟨i, cs, _, h1, h2, _⟩ := r2 i' cs' h
    exact ⟨i, cs, h1, h2⟩⟩
  have hm := hx.mr
  refine ⟨β', τ', ok, ⟨hm.okLt, fun i' cs' hs => ?_, fun t' e sz xs hs => ?_, fun i j ci cj hi hj hne => ?_, fun i j ei ej si sj xi xj p q hi hj hp hq hne => ?_, fun i j ci ej sj xj q hi hj hq => ?_⟩, hx.defers, hx.size, fun l v hl => ?_, hx.keep, fun j hj => ?_, fun j hj => ?_, fun i' cs' hs hge => ?_, fun t' e sz xs p hs hp => ?_, hx.ok0, hx.okNew⟩
  · obtain ⟨i, cs, K, h1, h2, h3, _, h5⟩ := r2 i' cs' hs
    obtain ⟨g1, g2, cur, e, g3, g4, g5⟩ := hm.box i cs h2
    obtain ⟨q1, q2⟩ := wkL_get h5
    refine ⟨h3, by show ¬ ok (β' i'); rw [hβ i' i h1]; exact g2, cur, e, by show w.heap[β' i']? = _; rw [hβ i' i h1]; exact g3, by rw [g4, q1], fun j c' hj => ?_⟩
    obtain ⟨c, K', p1, p2⟩ := q2 j c' hj
    obtain ⟨u, o1, o2, o3⟩ := g5 j c p1
    exact ⟨u, o1, o2, wkC_vr0 hM p2 o3⟩
  · obtain ⟨h1, h2⟩ := r3 t' e sz xs hs
    rcases h2 with ⟨t, h2, h3⟩ | ⟨h2, rfl, h3⟩
    · obtain ⟨_, g2, g3, g4, g5⟩ := hm.tok t e sz xs h3
      refine ⟨h1, g2, g3, fun hn => g4 ((hτ t' t h2).symm.trans hn), fun b o cap hb => g5 b o cap ((hτ t' t h2).symm.trans hb)⟩
    · refine ⟨h1, h3, by simp, fun _ => rfl, fun b o cap hb => ?_⟩
      have hb' : τ' t' = some (b, o, cap) := hb
      rw [hτn t' h2] at hb'; cases hb'
  · obtain ⟨i0, ci0, _, h1, h2, _⟩ := r2 i ci hi
    obtain ⟨j0, cj0, _, h3, h4, _⟩ := r2 j cj hj
    show β' i ≠ β' j
    rw [hβ i i0 h1, hβ j j0 h3]
    refine hm.sepB i0 j0 ci0 cj0 h2 h4 (fun he => hne ?_)
    subst he
    exact inj_spec c1 (keys_box hi) (keys_box hj) h1 h3
  · have hp' : τ' i = some p := hp
    have hq' : τ' j = some q := hq
    rcases (r3 i ei si xi hi).2 with ⟨i0, h1, h2⟩ | ⟨h1, _⟩
    · rcases (r3 j ej sj xj hj).2 with ⟨j0, h3, h4⟩ | ⟨h3, _⟩
      · rw [hτ i i0 h1] at hp'
        rw [hτ j j0 h3] at hq'
        refine hm.sepT i0 j0 ei ej si sj xi xj p q h2 h4 hp' hq' (fun he => hne ?_)
        subst he
        exact inj_spec c2 (keys_tok hi) (keys_tok hj) h1 h3
      · rw [hτn j h3] at hq'; cases hq'
    · rw [hτn i h1] at hp'; cases hp'
  · have hq' : τ' j = some q := hq
    obtain ⟨i0, ci0, _, h1, h2, _⟩ := r2 i ci hi
    rcases (r3 j ej sj xj hj).2 with ⟨j0, h3, h4⟩ | ⟨h3, _⟩
    · show β' i ≠ q.1
      rw [hβ i i0 h1]
      rw [hτ j j0 h3] at hq'
      exact hm.sepM i0 j0 ci0 ej sj xj q h2 h4 hq'
    · rw [hτn j h3] at hq'; cases hq'
  · obtain ⟨K, hk⟩ := r1 l v hl
    exact wkV_vr hM hk (hx.val (.tmp l))
  · show β' j = F.β0 j
    rw [hβ j j (at_fixed c3 j hj)]
    exact hx.par j hj
  · show j < nx
    have := Nat.le_of_ble_eq_true c4
    omega
  · obtain ⟨i, cs, _, h1, h2, _, h4, _⟩ := r2 i' cs' hs
    show F.w0.heap.size ≤ β' i'
    rw [hβ i' i h1]
    refine hx.newB i cs h2 ?_
    rcases h4 with rfl | h4
    · exact hge
    · exact h4.1
  · have hp' : τ' t' = some p := hp
    rcases (r3 t' e sz xs hs).2 with ⟨t, h2, h3⟩ | ⟨h2, _⟩
    · rw [hτ t' t h2] at hp'
      exact hx.newT t e sz xs p h3 hp'
    · rw [hτn t' h2] at hp'; cases hp'
end

end Go.Vc
