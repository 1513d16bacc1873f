/- Vc, part 28: the table of types, read off by a Bool. -/
import Derived.Test.YtfnkbbeeilpiiaaVc27
namespace Go.Vc
open Go.RowKit

def zrB : AV → Value → Bool
  | .int k n, .int k' n' => decide (k = k') && decide (n = n')
  | .bool b, .bool b' => b == b'
  | .nilS, .slice none 0 0 => true
  | .nilp, .pointer none => true
  | .junk, _ => true
  | _, _ => false

theorem zrB_spec {c : AV} {v : Value} (h : zrB c v = true) : ZR c v := by
  unfold zrB at h
  split at h
  · simp only [Bool.and_eq_true, decide_eq_true_eq] at h
    obtain ⟨rfl, rfl⟩ := h
    rfl
  · rw [eq_of_beq h]; rfl
  · rfl
  · rfl
  · trivial
  · cases h

def zrL : List AV → List Value → Bool
  | [], [] => true
  | c :: cs, v :: vs => (zrB c v && v.oneCell') && zrL cs vs
  | _, _ => false

theorem zrL_spec : ∀ {cs : List AV} {vs : List Value}, zrL cs vs = true → ∀ (j : Nat) (c : AV), cs[j]? = some c → ∃ u, vs[j]? = some u ∧ u.oneCell' = true ∧ ZR c u
  | [], [], _, j, c, h => by simp at h
  | c :: cs, v :: vs, h, j, x, hj => by
    simp only [zrL, Bool.and_eq_true] at h
    cases j with
    | zero => cases hj; exact ⟨v, rfl, h.1.2, zrB_spec h.1.1⟩
    | succ j => simpa using zrL_spec h.2 j x (by simpa using hj)
  | [], _ :: _, h, _, _, _ => by cases h
  | _ :: _, [], h, _, _, _ => by cases h

def natsEq : List (Nat × Nat) → List (Nat × Nat) → Bool
  | [], [] => true
  | (a, b) :: r, (c, d) :: s => (Nat.beq a c && Nat.beq b d) && natsEq r s
  | _, _ => false

theorem natsEq_spec : ∀ {a b : List (Nat × Nat)}, natsEq a b = true → a = b
  | [], [], _ => rfl
  | (a, b) :: r, (c, d) :: s, h => by
    simp only [natsEq, Bool.and_eq_true] at h
    rw [Nat.eq_of_beq_eq_true h.1.1, Nat.eq_of_beq_eq_true h.1.2, natsEq_spec h.2]
  | [], _ :: _, h => by cases h
  | _ :: _, [], h => by cases h

def kindB (P : Program) (t : Nat) : TK → Bool
  | .int k => match P.underlying t with
    | some (.int k') => decide (k' = k)
    | _ => false
  | .bool => match P.underlying t with
    | some .bool => true
    | _ => false
  | .struct fs => match P.underlying t with
    | some (.struct flds) => natsEq (flds.toList.map fun f => (f.offset, P.cellsOf f.type)) fs && flds.toList.all fun f => (P.info? f.type).isSome
    | _ => false
  | .slice e => match P.underlying t with
    | some (.slice e') => Nat.beq e' e
    | _ => false
  | .pointer e => match P.underlying t with
    | some (.pointer e') => Nat.beq e' e
    | _ => false
  | .array n e => match P.underlying t with
    | some (.array n' e') => Nat.beq n' n && Nat.beq e' e
    | _ => false
  | .other => match P.underlying t with
    | some (.struct _) => false
    | some (.array _ _) => false
    | some _ => true
    | none => false

theorem kindB_spec {P : Program} {t : Nat} {k : TK} (h : kindB P t k = true) : KindOk P t k := by
  unfold kindB at h
  split at h <;> split at h <;> first | (cases h; done) | skip
  · rename_i hk; rw [← of_decide_eq_true h]; exact hk
  · assumption
  · rename_i flds hk
    simp only [Bool.and_eq_true] at h
    exact ⟨flds, hk, natsEq_spec h.1, fun f hf => List.all_eq_true.1 h.2 f hf⟩
  · rename_i hk; rw [← Nat.eq_of_beq_eq_true h]; exact hk
  · rename_i hk; rw [← Nat.eq_of_beq_eq_true h]; exact hk
  · rename_i hk
    simp only [Bool.and_eq_true] at h
    rw [← Nat.eq_of_beq_eq_true h.1, ← Nat.eq_of_beq_eq_true h.2]; exact hk
  · rename_i d h1 h2 hk
    refine ⟨d, hk, ?_⟩
    cases d <;> first | rfl | exact absurd rfl (h1 _) | exact absurd rfl (h2 _ _)

/-- The kinds of a plain type's cells, for ==. -/
def eqFs (P : Program) (g : TypeId → Option (List Bool)) : Nat → List Field → Option (List (List Bool))
  | _, [] => some []
  | off, f :: r => match g f.type with
    | some ks => match decide (f.name ≠ "_") && (Nat.beq f.offset off && (match P.info? f.type with
        | some i => Nat.beq i.size ks.length
        | none => false)) with
      | true => match eqFs P g (off + ks.length) r with
        | some kss => some (ks :: kss)
        | none => none
      | false => none
    | none => none

def eqKs (P : Program) : Nat → TypeId → Option (List Bool)
  | 0, _ => none
  | d + 1, t => match P.underlying t with
    | some (.int _) => some [true]
    | some .bool => some [false]
    | some (.struct _) => match P.stoodInHeld t with
      | true => none
      | false => match eqFs P (eqKs P d) 0 (P.fieldsOf t).toList with
        | some kss => some kss.flatten
        | none => none
    | _ => none

theorem eqFs_spec {P : Program} {g : TypeId → Option (List Bool)} : ∀ {fs : List Field} {off : Nat} {kss : List (List Bool)}, eqFs P g off fs = some kss →
    kss.length = fs.length ∧ ∀ (j : Nat) (f : Field) (ks : List Bool), fs[j]? = some f → kss[j]? = some ks →
      g f.type = some ks ∧ f.name ≠ "_" ∧ f.offset = off + (kss.take j).flatten.length ∧ (P.info? f.type).map (·.size) = some ks.length
  | [], off, kss, h => by cases h; simp
  | f :: r, off, kss, h => by
    simp only [eqFs] at h
    split at h
    · rename_i ks hks
      split at h
      · rename_i hc
        split at h
        · rename_i kss' hr
          cases h
          simp only [Bool.and_eq_true, decide_eq_true_eq] at hc
          obtain ⟨g1, g2⟩ := eqFs_spec hr
          refine ⟨by simp [g1], fun j f' ks' hf hk => ?_⟩
          cases j with
          | zero =>
            cases hf; cases hk
            refine ⟨hks, hc.1, by simp [Nat.eq_of_beq_eq_true hc.2.1], ?_⟩
            have h3 := hc.2.2
            split at h3
            · rename_i i hi; rw [hi]; simp [Nat.eq_of_beq_eq_true h3]
            · cases h3
          | succ j =>
            obtain ⟨q1, q2, q3, q4⟩ := g2 j f' ks' (by simpa using hf) (by simpa using hk)
            refine ⟨q1, q2, ?_, q4⟩
            rw [q3]
            simp [Nat.add_assoc]
        · cases h
      · cases h
    · cases h

theorem eqKs_spec {P : Program} : ∀ (d : Nat) {t : TypeId} {ks : List Bool}, eqKs P d t = some ks → EqT P t ks d
  | 0, _, _, h => by cases h
  | d + 1, t, ks, h => by
    simp only [eqKs] at h
    split at h
    · rename_i k hk; cases h; exact .int t k d hk
    · rename_i hk; cases h; exact .bool t d hk
    · rename_i flds hk
      split at h
      · cases h
      · rename_i hs
        split at h
        · rename_i kss hf
          cases h
          have e : P.fieldsOf t = flds := by simp [Program.fieldsOf, hk]
          obtain ⟨g1, g2⟩ := eqFs_spec hf
          refine .struct t d kss (by rw [e]; exact hk) hs g1 (fun j f ks hj hk => ?_) (fun j f ks hj hk => ?_)
          · obtain ⟨_, q2, q3, q4⟩ := g2 j f ks hj hk
            exact ⟨q2, by simpa using q3, q4⟩
          · exact eqKs_spec d (g2 j f ks hj hk).1
        · cases h
    · cases h

def boolsEq : List Bool → List Bool → Bool
  | [], [] => true
  | a :: r, b :: s => (a == b) && boolsEq r s
  | _, _ => false

theorem boolsEq_spec : ∀ {a b : List Bool}, boolsEq a b = true → a = b
  | [], [], _ => rfl
  | a :: r, b :: s, h => by
    simp only [boolsEq, Bool.and_eq_true] at h
    rw [eq_of_beq h.1, boolsEq_spec h.2]
  | [], _ :: _, h => by cases h
  | _ :: _, [], h => by cases h

def plainB (P : Program) (t : Nat) (ti : TI) : Bool := match ti.plain with
  | [] => true
  | ks => !P.eqGuardType P.depth t && (ti.agg && (match eqKs P 100 t with
    | some ks' => boolsEq ks' ks
    | none => false))

def infoB (P : Program) (t : Nat) (ti : TI) : Bool := match P.info? t with
  | some i => match i.zero with
    | some z => Nat.beq i.size ti.size && (Nat.beq i.bytes ti.bytes && (Nat.beq z.cells.size ti.size && (Nat.beq ti.zero.length ti.size && zrL ti.zero z.cells.toList)))
    | none => false
  | none => false

def tiB (P : Program) (t : Nat) (ti : TI) : Bool := infoB P t ti && (kindB P t ti.kind && plainB P t ti)

theorem tiB_spec {P : Program} {t : Nat} {ti : TI} (h : tiB P t ti = true) : TIok P t ti := by
  simp only [tiB, Bool.and_eq_true] at h
  obtain ⟨h1, h2, h3⟩ := h
  refine ⟨?_, kindB_spec h2, fun hne => ?_⟩
  · unfold infoB at h1
    split at h1
    · rename_i i hi
      split at h1
      · rename_i z hz
        simp only [Bool.and_eq_true] at h1
        obtain ⟨a, b, c, d, e⟩ := h1
        refine ⟨i, hi, Nat.eq_of_beq_eq_true a, Nat.eq_of_beq_eq_true b, z, hz, Nat.eq_of_beq_eq_true c, Nat.eq_of_beq_eq_true d, fun j x hj => ?_⟩
        obtain ⟨u, q1, q2⟩ := zrL_spec e j x hj
        exact ⟨u, by simpa using q1, q2⟩
      · cases h1
    · cases h1
  · unfold plainB at h3
    split at h3
    · rename_i hp; exact absurd hp hne
    · rename_i ks _
      simp only [Bool.and_eq_true, Bool.not_eq_true'] at h3
      obtain ⟨a, b, c⟩ := h3
      refine ⟨a, b, ?_⟩
      split at c
      · rename_i ks' hks
        rw [← boolsEq_spec c]
        exact eqKs_spec 100 hks
      · cases c

def tabB (P : Program) (T : Tab) : Bool := T.all fun p => tiB P p.1 p.2

theorem tabB_spec {P : Program} {T : Tab} (h : tabB P T = true) : TabOk P T := by
  have key : ∀ (T' : Tab) t ti, Tab.find T' t = some ti → (t, ti) ∈ T' := by
    intro T'
    induction T' with
    | nil => intro t ti h; cases h
    | cons p r ih =>
      obtain ⟨n, x⟩ := p
      intro t ti h
      simp only [Tab.find] at h
      split at h
      · rename_i hb; cases h; rw [Nat.eq_of_beq_eq_true hb]; simp
      · exact List.mem_cons_of_mem _ (ih t ti h)
  intro t ti ht
  exact tiB_spec (List.all_eq_true.1 h _ (key T t ti ht))

/-! ### A law -/

/-- A function that answers true, by its contract, and lays new blocks at most. -/
theorem Contract.law {P : Program} {f : FuncId} {as : List AV} (h : Contract P f as [] (.sb true) []) (w : World) (vs : Array Value) (hl : vs.size = as.length)
    (hv : ∀ (i : Nat) (c : AV), as[i]? = some c → ∃ u, vs[i]? = some u ∧ VR1 (cMem [] (fun _ => 0) (fun b => b < w.heap.size) w) c u) :
    Calls P f vs w fun e w' => e = .returned (.bool true) ∧ Grown w w' := by
  refine (h.body w (fun _ => 0) (fun b => b < w.heap.size) vs ⟨fun _ hb => hb, fun i cs hs => ?_, fun t e sz xs ht => ?_, fun i j ci cj hi => ?_, fun i j ei ej si sj xi xj p q hi => ?_, fun i j ci ej sj xj q hi => ?_⟩ hl hv).mono ?_
  · simp [cMem, bxAS] at hs
  · simp [cMem, bxAS] at ht
  · simp [cMem, bxAS] at hi
  · simp [cMem, bxAS] at hi
  · simp [cMem, bxAS] at hi
  · rintro e w' ⟨u, β', ok', rfl, _, hr, hk, _⟩
    have hu : u = .bool true := hr
    subst hu
    refine ⟨rfl, ⟨hk.os, hk.output, fun i hi => ?_⟩, hk.fz, hk.size⟩
    have hb : w'.heap[i]? = w.heap[i]? := hk.block i hi (fun j hj => absurd (show j < 0 from hj) (by omega))
    rw [hb]
    generalize w.heap[i]? = o
    cases o with
    | none => rfl
    | some o => cases o <;> first | rfl | exact ⟨rfl, rfl, rfl, fun _ _ => rfl⟩ | exact .inr ⟨rfl, rfl⟩

/-- Integers as arguments. -/
theorem vr_int {m : Mem} (k : IntKind) (n : Int) : VR1 m (.int k n) (.int k n) := rfl

end Go.Vc
