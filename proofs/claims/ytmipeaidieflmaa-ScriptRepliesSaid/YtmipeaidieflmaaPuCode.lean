/- Pu: codes of numbers: bytes, and that they are read back. -/
import Derived.Test.YtmipeaidieflmaaPu0
set_option linter.unusedVariables false
set_option linter.unusedSimpArgs false
set_option linter.unnecessarySimpa false
set_option linter.unusedSectionVars false
namespace Go.Win
open Go.Vc Go.Dec

/-- The bytes of a number that is not negative, seven bits each, the last ones first. -/
def cb (u : Nat) : List Int := if u < 128 then [(u : Int)] else ((128 + u % 128 : Nat) : Int) :: cb (u / 128)
termination_by u
decreasing_by omega

theorem cb_lt {u : Nat} (h : u < 128) : cb u = [(u : Int)] := by rw [cb, if_pos h]
theorem cb_ge {u : Nat} (h : 128 ≤ u) : cb u = ((128 + u % 128 : Nat) : Int) :: cb (u / 128) := by rw [cb, if_neg (by omega)]

theorem cb_len (u : Nat) : 1 ≤ (cb u).length := by
  by_cases h : u < 128
  · rw [cb_lt h]; simp
  · rw [cb_ge (by omega)]; simp

/-- Bytes. -/
def byt (l : List Int) : Prop := ∀ x ∈ l, 0 ≤ x ∧ x ≤ 255

/-- Reading: i bytes were read, with the value u so far. -/
def rdN : Nat → Nat → List Int → Option (Nat × Nat)
  | _, _, [] => none
  | i, u, x :: l => if 10 ≤ i then none else if i = 9 ∧ 1 < x then none else if 128 ≤ x then rdN (i + 1) (u + (x.toNat % 128) * 128 ^ i) l
    else if x = 0 ∧ 0 < i then none else some (u + x.toNat * 128 ^ i, i + 1)

theorem pow128_le {i j : Nat} (h : i ≤ j) : 128 ^ i ≤ 128 ^ j := Nat.pow_le_pow_right (by decide) h

theorem rd_cb (l : List Int) : ∀ (v i u : Nat), u + v * 128 ^ i < 2 ^ 64 → (0 < i → 0 < v) → rdN i u (cb v ++ l) = some (u + v * 128 ^ i, i + (cb v).length) := by
  intro v
  induction v using Nat.strongRecOn with
  | _ v ih =>
    intro i u hlt hpos
    have hi : i < 10 := by
      apply Classical.byContradiction
      intro hn
      have h1 := pow128_le (show 10 ≤ i by omega)
      have h2 : 1 ≤ v := hpos (by omega)
      have h3 : 1 * 128 ^ 10 ≤ v * 128 ^ i := Nat.mul_le_mul h2 h1
      have : (128 : Nat) ^ 10 = 1180591620717411303424 := by decide
      omega
    have h9 : i = 9 → v ≤ 1 := by
      intro h
      subst h
      apply Classical.byContradiction
      intro hn
      have h3 : 2 * 128 ^ 9 ≤ v * 128 ^ 9 := Nat.mul_le_mul_right _ (by omega)
      have : (128 : Nat) ^ 9 = 9223372036854775808 := by decide
      omega
    by_cases h : v < 128
    · rw [cb_lt h]
      simp only [List.cons_append, List.nil_append, rdN, List.length_cons, List.length_nil]
      rw [if_neg (by omega), if_neg (by rintro ⟨a, b⟩; have := h9 a; omega), if_neg (by omega), if_neg (by rintro ⟨a, b⟩; have := hpos b; omega)]
      rfl
    · rw [cb_ge (by omega)]
      simp only [List.cons_append, rdN, List.length_cons]
      rw [if_neg (by omega), if_neg (by rintro ⟨a, b⟩; have := h9 a; omega), if_pos (by omega)]
      have e1 : (((128 + v % 128 : Nat) : Int)).toNat % 128 = v % 128 := by rw [Int.toNat_natCast]; omega
      have e2 : u + v % 128 * 128 ^ i + v / 128 * 128 ^ (i + 1) = u + v * 128 ^ i := by
        have : v / 128 * 128 ^ (i + 1) = 128 * (v / 128) * 128 ^ i := by rw [Nat.pow_succ]; ac_rfl
        rw [this, Nat.add_assoc, ← Nat.add_mul]
        congr 2
        omega
      rw [e1, ih (v / 128) (by omega) (i + 1) _ (by rw [e2]; exact hlt) (fun _ => by omega), e2]
      congr 2
      omega

theorem rd_inv : ∀ (l : List Int) (i u w k : Nat), byt l → u < 128 ^ i → rdN i u l = some (w, k) →
    ∃ v, w = u + v * 128 ^ i ∧ k = i + (cb v).length ∧ l = cb v ++ l.drop (cb v).length ∧ (0 < i → 0 < v) ∧ w < 2 ^ 64
  | [], i, u, w, k, _, _, h => by simp [rdN] at h
  | x :: l, i, u, w, k, hb, hu, h => by
    simp only [rdN] at h
    have hx := hb x (by simp)
    split at h
    · cases h
    rename_i h10
    split at h
    · cases h
    rename_i h9
    have p9 : (128 : Nat) ^ 9 = 9223372036854775808 := by decide
    split at h
    · rename_i h128
      have hx0 : x.toNat % 128 + 128 = x.toNat := by omega
      have hlt : u + x.toNat % 128 * 128 ^ i < 128 ^ (i + 1) := by
        have h1 : x.toNat % 128 * 128 ^ i ≤ 127 * 128 ^ i := Nat.mul_le_mul_right _ (by omega)
        rw [Nat.pow_succ]
        omega
      obtain ⟨v, e1, e2, e3, e4, e5⟩ := rd_inv l (i + 1) _ w k (fun y hy => hb y (by simp [hy])) hlt h
      have hv := e4 (by omega)
      have hcb : cb (x.toNat % 128 + 128 * v) = x :: cb v := by
        rw [cb_ge (by omega)]
        congr 1
        · omega
        · congr 1; omega
      refine ⟨x.toNat % 128 + 128 * v, ?_, ?_, ?_, fun _ => by omega, e5⟩
      · rw [e1, Nat.add_mul, ← Nat.add_assoc]
        congr 1
        rw [Nat.pow_succ]; ac_rfl
      · rw [hcb, List.length_cons]; omega
      · rw [hcb, List.length_cons, List.drop_succ_cons, List.cons_append, ← e3]
    · rename_i h128
      split at h
      · cases h
      rename_i h0
      cases h
      have hcb : cb x.toNat = [x] := by rw [cb_lt (by omega)]; congr 1; omega
      refine ⟨x.toNat, rfl, by rw [hcb]; rfl, by rw [hcb]; rfl, fun hi => ?_, ?_⟩
      · rcases Nat.eq_zero_or_pos x.toNat with h1 | h1
        · exact absurd ⟨by omega, hi⟩ h0
        · exact h1
      · by_cases hi : i = 9
        · subst hi
          have h1 : x.toNat ≤ 1 := by
            have : ¬ (1 < x) := fun hn => h9 ⟨rfl, hn⟩
            omega
          have : x.toNat * 128 ^ 9 ≤ 1 * 128 ^ 9 := Nat.mul_le_mul_right _ h1
          omega
        · have h1 : x.toNat * 128 ^ i ≤ 127 * 128 ^ i := Nat.mul_le_mul_right _ (by omega)
          have h2 := pow128_le (show i + 1 ≤ 9 by omega)
          rw [Nat.pow_succ] at h2
          omega

/-- A number with a sign as one without. -/
def zz (n : Int) : Nat := if 0 ≤ n then (2 * n).toNat else (-2 * n - 1).toNat
def unzz (w : Nat) : Int := if w % 2 = 0 then ((w / 2 : Nat) : Int) else -((w / 2 : Nat) : Int) - 1
theorem unzz_zz (n : Int) : unzz (zz n) = n := by unfold unzz zz; split <;> split <;> omega
theorem zz_unzz (w : Nat) : zz (unzz w) = w := by unfold unzz zz; split <;> split <;> omega
theorem zz_lt {n : Int} (h : wfI .i64 n) : zz n < 2 ^ 64 := by
  simp [wfI, Lit.wf, IntKind.min, IntKind.max, IntKind.signed, IntKind.bits] at h
  unfold zz
  split <;> omega
theorem unzz_wf {w : Nat} (h : w < 2 ^ 64) : wfI .i64 (unzz w) := by
  simp [wfI, Lit.wf, IntKind.min, IntKind.max, IntKind.signed, IntKind.bits]
  unfold unzz
  split <;> omega

/-- The code of a number. -/
def code (n : Int) : List Int := cb (zz n)
theorem code_len (n : Int) : 1 ≤ (code n).length := cb_len _
/-- One number, and how many bytes it has. -/
def rd (l : List Int) : Option (Int × Nat) := (rdN 0 0 l).map fun p => (unzz p.1, p.2)

theorem rd_code {n : Int} (h : wfI .i64 n) (l : List Int) : rd (code n ++ l) = some (n, (code n).length) := by
  unfold rd code
  rw [rd_cb l (zz n) 0 0 (by have := zz_lt h; simpa using this) (fun h => absurd h (by omega))]
  simp [unzz_zz]

theorem rd_some {l : List Int} (hb : byt l) {n : Int} {k : Nat} (h : rd l = some (n, k)) : wfI .i64 n ∧ k = (code n).length ∧ l = code n ++ l.drop k := by
  unfold rd at h
  rw [Option.map_eq_some_iff] at h
  obtain ⟨⟨w, k'⟩, h1, h2⟩ := h
  cases h2
  obtain ⟨v, e1, e2, e3, _, e5⟩ := rd_inv l 0 0 w k' hb (by simp) h1
  have hv : w = v := by simpa using e1
  subst hv
  have hz : code (unzz w) = cb w := by unfold code; rw [zz_unzz]
  simp only [Nat.zero_add] at e2
  exact ⟨unzz_wf e5, by rw [hz, e2], by rw [hz, e2]; exact e3⟩

/-- The codes of numbers. -/
def wr (ns : List Int) : List Int := ns.flatMap code
theorem wr_nil : wr [] = [] := rfl
theorem wr_cons (n : Int) (ns : List Int) : wr (n :: ns) = code n ++ wr ns := rfl
theorem wr_append (a b : List Int) : wr (a ++ b) = wr a ++ wr b := List.flatMap_append
theorem wr_len (ns : List Int) : ns.length ≤ (wr ns).length := by
  induction ns with
  | nil => simp [wr]
  | cons n ns ih =>
    rw [wr_cons, List.length_append, List.length_cons]
    have := code_len n
    omega

theorem byt_drop {l : List Int} (h : byt l) (k : Nat) : byt (l.drop k) := fun x hx => h x (List.drop_subset _ _ hx)
/-- All of i64. -/
def wfNs (ns : List Int) : Prop := ∀ n ∈ ns, wfI .i64 n

/-- The codes of a list determine it. -/
theorem wr_inj : ∀ {a b : List Int}, wfNs a → wfNs b → wr a = wr b → a = b
  | [], [], _, _, _ => rfl
  | [], n :: ns, _, _, h => by
    have h1 := congrArg List.length h
    rw [wr_cons, List.length_append] at h1
    have h2 := code_len n
    have h3 : (wr []).length = 0 := rfl
    omega
  | n :: ns, [], _, _, h => by
    have h1 := congrArg List.length h
    rw [wr_cons, List.length_append] at h1
    have h2 := code_len n
    have h3 : (wr []).length = 0 := rfl
    omega
  | n :: ns, m :: ms, ha, hb, h => by
    have h1 := rd_code (ha n (by simp)) (wr ns)
    have h2 := rd_code (hb m (by simp)) (wr ms)
    rw [wr_cons, wr_cons] at h
    rw [h, h2] at h1
    simp only [Option.some.injEq, Prod.mk.injEq] at h1
    obtain ⟨e, _⟩ := h1
    subst e
    rw [List.append_cancel_left_eq] at h
    rw [wr_inj (fun x hx => ha x (by simp [hx])) (fun x hx => hb x (by simp [hx])) h]

/-- A reader takes from a list, or fails. -/
abbrev Rd (α : Type) := List Int → Option (α × List Int)

/-- A reader of bytes and one of numbers that agree. -/
structure Sim {α : Type} (Q P : Rd α) : Prop where
  fwd : ∀ ns a ns', wfNs ns → P ns = some (a, ns') → wfNs ns' ∧ Q (wr ns) = some (a, wr ns')
  bwd : ∀ l a l', byt l → Q l = some (a, l') → byt l' ∧ ∀ ns', wfNs ns' → l' = wr ns' → ∃ ns, wfNs ns ∧ l = wr ns ∧ P ns = some (a, ns') ∧ ns'.length ≤ ns.length

def rdInt : Rd Int := fun l => (rd l).map fun p => (p.1, l.drop p.2)
def takeInt : Rd Int := fun
  | [] => none
  | n :: ns => some (n, ns)

theorem sim_int : Sim rdInt takeInt where
  fwd := fun ns a ns' hw h => by
    cases ns with
    | nil => cases h
    | cons n ns =>
      cases h
      refine ⟨fun x hx => hw x (by simp [hx]), ?_⟩
      unfold rdInt
      rw [wr_cons, rd_code (hw _ (by simp))]
      simp
  bwd := fun l a l' hb h => by
    unfold rdInt at h
    rw [Option.map_eq_some_iff] at h
    obtain ⟨⟨n, k⟩, h1, h2⟩ := h
    cases h2
    obtain ⟨w, e1, e2⟩ := rd_some hb h1
    refine ⟨byt_drop hb _, fun ns' hn e => ⟨n :: ns', fun x hx => ?_, ?_, rfl, by simp⟩⟩
    · rcases List.mem_cons.1 hx with h3 | h3
      · subst h3; exact w
      · exact hn x h3
    · rw [wr_cons, ← e]; exact e2

def rpure {α : Type} (a : α) : Rd α := fun l => some (a, l)
def rbind {α β : Type} (p : Rd α) (f : α → Rd β) : Rd β := fun l => (p l).bind fun q => f q.1 q.2
def rfail {α : Type} : Rd α := fun _ => none

theorem sim_pure {α : Type} (a : α) : Sim (rpure a) (rpure a) where
  fwd := fun ns b ns' hw h => by cases h; exact ⟨hw, rfl⟩
  bwd := fun l b l' hb h => by cases h; exact ⟨hb, fun ns' hn e => ⟨ns', hn, e, rfl, Nat.le_refl _⟩⟩
theorem sim_fail {α : Type} : Sim (rfail (α := α)) rfail where
  fwd := fun ns b ns' hw h => by cases h
  bwd := fun l b l' hb h => by cases h

theorem sim_bind {α β : Type} {Q P : Rd α} {f g : α → Rd β} (h : Sim Q P) (hf : ∀ a, Sim (f a) (g a)) : Sim (rbind Q f) (rbind P g) where
  fwd := fun ns b ns' hw e => by
    unfold rbind at e
    rw [Option.bind_eq_some_iff] at e
    obtain ⟨⟨a, n1⟩, e1, e2⟩ := e
    obtain ⟨w1, q1⟩ := h.fwd _ _ _ hw e1
    obtain ⟨w2, q2⟩ := (hf a).fwd _ _ _ w1 e2
    refine ⟨w2, ?_⟩
    unfold rbind
    rw [q1]
    exact q2
  bwd := fun l b l' hb e => by
    unfold rbind at e
    rw [Option.bind_eq_some_iff] at e
    obtain ⟨⟨a, l1⟩, e1, e2⟩ := e
    obtain ⟨b1, q1⟩ := h.bwd _ _ _ hb e1
    obtain ⟨b2, q2⟩ := (hf a).bwd _ _ _ b1 e2
    refine ⟨b2, fun ns' hn en => ?_⟩
    obtain ⟨n1, w1, r1, r2, r3⟩ := q2 ns' hn en
    obtain ⟨n0, w0, r4, r5, r6⟩ := q1 n1 w1 r1
    refine ⟨n0, w0, r4, ?_, Nat.le_trans r3 r6⟩
    unfold rbind
    rw [r5]
    exact r2

/-- k elements. -/
def rmany {α : Type} (p : Rd α) : Nat → Rd (List α)
  | 0 => rpure []
  | k + 1 => rbind p fun a => rbind (rmany p k) fun as => rpure (a :: as)

theorem sim_many {α : Type} {Q P : Rd α} (h : Sim Q P) : ∀ k, Sim (rmany Q k) (rmany P k)
  | 0 => sim_pure _
  | k + 1 => sim_bind h fun _ => sim_bind (sim_many h k) fun _ => sim_pure _

/-- Each element takes a number at least. -/
def Eats {α : Type} (P : Rd α) : Prop := ∀ ns a ns', P ns = some (a, ns') → ns'.length < ns.length

theorem many_len {α : Type} {P : Rd α} (h : Eats P) : ∀ (k : Nat) (ns : List Int) (as : List α) (ns' : List Int), rmany P k ns = some (as, ns') → ns'.length + k ≤ ns.length
  | 0, ns, as, ns', e => by cases e; simp
  | k + 1, ns, as, ns', e => by
    unfold rmany rbind at e
    rw [Option.bind_eq_some_iff] at e
    obtain ⟨⟨a, n1⟩, e1, e2⟩ := e
    have e2' : ((rmany P k n1).bind fun q => rpure (a :: q.1) q.2) = some (as, ns') := e2
    rw [Option.bind_eq_some_iff] at e2'
    obtain ⟨⟨bs, n2⟩, e3, e4⟩ := e2'
    cases e4
    have h1 := h _ _ _ e1
    have h2 := many_len h k _ _ _ e3
    simp only [] at h1 h2 ⊢
    omega

/-- A list: its length, which may not be greater than what is left, and its elements. -/
def rlist {α : Type} (i : Rd Int) (p : Rd α) : Rd (List α) := rbind i fun n l => if n < 0 ∨ (l.length : Int) < n then none else rmany p n.toNat l

theorem sim_list {α : Type} {Q P : Rd α} (h : Sim Q P) (he : Eats P) : Sim (rlist rdInt Q) (rlist takeInt P) := by
  refine sim_bind sim_int fun n => ⟨fun ns a ns' hw e => ?_, fun l a l' hb e => ?_⟩
  · split at e
    · cases e
    rename_i hc
    obtain ⟨w, q⟩ := (sim_many h _).fwd _ _ _ hw e
    refine ⟨w, ?_⟩
    rw [if_neg]
    · exact q
    · have := wr_len ns
      omega
  · split at e
    · cases e
    rename_i hc
    obtain ⟨b, q⟩ := (sim_many h _).bwd _ _ _ hb e
    refine ⟨b, fun ns' hn en => ?_⟩
    obtain ⟨ns, w, r1, r2, r3⟩ := q ns' hn en
    refine ⟨ns, w, r1, ?_, r3⟩
    rw [if_neg]
    · exact r2
    · have := many_len he _ _ _ _ r2
      omega

/-- All of the bytes are read if and only if all of the numbers are. -/
theorem sim_all {α : Type} {Q P : Rd α} (h : Sim Q P) {l : List Int} (hb : byt l) (a : α) : Q l = some (a, []) ↔ ∃ ns, wfNs ns ∧ l = wr ns ∧ P ns = some (a, []) := by
  constructor
  · intro e
    obtain ⟨_, q⟩ := h.bwd _ _ _ hb e
    obtain ⟨ns, w, r1, r2, _⟩ := q [] (fun _ h => by cases h) rfl
    exact ⟨ns, w, r1, r2⟩
  · rintro ⟨ns, w, r1, r2⟩
    rw [r1]
    exact (h.fwd _ _ _ w r2).2
end Go.Win

