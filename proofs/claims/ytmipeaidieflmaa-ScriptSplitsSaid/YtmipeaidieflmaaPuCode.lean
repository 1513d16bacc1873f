/- Pu: codes of numbers: bytes, and that they are read back. -/
import Derived.Test.YtmipeaidieflmaaPu0
set_option linter.unusedVariables false
set_option linter.unusedSimpArgs false
set_option linter.unnecessarySimpa false
set_option linter.unusedSectionVars false
namespace Go.Win
open Go.Vc Go.Dec

/-- The bytes of a number that is not negative, seven bits each, the last ones first. -/
def cb (u : Nat) : List Int := if u < 128 then [(u : Int)] else ((128 + u % 128 : Nat) : Int) :: cb (u / 128)
termination_by u
decreasing_by omega

theorem cb_lt {u : Nat} (h : u < 128) : cb u = [(u : Int)] := by rw [cb, if_pos h]
theorem cb_ge {u : Nat} (h : 128 ≤ u) : cb u = ((128 + u % 128 : Nat) : Int) :: cb (u / 128) := by rw [cb, if_neg (by omega)]

theorem cb_len (u : Nat) : 1 ≤ (cb u).length := by
  by_cases h : u < 128
  · rw [cb_lt h]; simp
  · rw [cb_ge (by omega)]; simp

/-- Bytes. -/
def byt (l : List Int) : Prop := ∀ x ∈ l, 0 ≤ x ∧ x ≤ 255

/-- Reading: i bytes were read, with the value u so far. -/
def rdN : Nat → Nat → List Int → Option (Nat × Nat)
  | _, _, [] => none
  | i, u, x :: l => if 10 ≤ i then none else if i = 9 ∧ 1 < x then none else if 128 ≤ x then rdN (i + 1) (u + (x.toNat % 128) * 128 ^ i) l
    else if x = 0 ∧ 0 < i then none else some (u + x.toNat * 128 ^ i, i + 1)

theorem pow128_le {i j : Nat} (h : i ≤ j) : 128 ^ i ≤ 128 ^ j := Nat.pow_le_pow_right (by decide) h

theorem rd_inv : ∀ (l : List Int) (i u w k : Nat), byt l → u < 128 ^ i → rdN i u l = some (w, k) →
    ∃ v, w = u + v * 128 ^ i ∧ k = i + (cb v).length ∧ l = cb v ++ l.drop (cb v).length ∧ (0 < i → 0 < v) ∧ w < 2 ^ 64
  | [], i, u, w, k, _, _, h => by simp [rdN] at h
  | x :: l, i, u, w, k, hb, hu, h => by
    simp only [rdN] at h
    have hx := hb x (by simp)
    split at h
    · cases h
    rename_i h10
    split at h
    · cases h
    rename_i h9
    have p9 : (128 : Nat) ^ 9 = 9223372036854775808 := by decide
    split at h
    · rename_i h128
      have hx0 : x.toNat % 128 + 128 = x.toNat := by omega
      have hlt : u + x.toNat % 128 * 128 ^ i < 128 ^ (i + 1) := by
        have h1 : x.toNat % 128 * 128 ^ i ≤ 127 * 128 ^ i := Nat.mul_le_mul_right _ (by omega)
        rw [Nat.pow_succ]
        omega
      obtain ⟨v, e1, e2, e3, e4, e5⟩ := rd_inv l (i + 1) _ w k (fun y hy => hb y (by simp [hy])) hlt h
      have hv := e4 (by omega)
      have hcb : cb (x.toNat % 128 + 128 * v) = x :: cb v := by
        rw [cb_ge (by omega)]
        congr 1
        · omega
        · congr 1; omega
      refine ⟨x.toNat % 128 + 128 * v, ?_, ?_, ?_, fun _ => by omega, e5⟩
      · rw [e1, Nat.add_mul, ← Nat.add_assoc]
        congr 1
        rw [Nat.pow_succ]; ac_rfl
      · rw [hcb, List.length_cons]; omega
      · rw [hcb, List.length_cons, List.drop_succ_cons, List.cons_append, ← e3]
    · rename_i h128
      split at h
      · cases h
      rename_i h0
      cases h
      have hcb : cb x.toNat = [x] := by rw [cb_lt (by omega)]; congr 1; omega
      refine ⟨x.toNat, rfl, by rw [hcb]; rfl, by rw [hcb]; rfl, fun hi => ?_, ?_⟩
      · rcases Nat.eq_zero_or_pos x.toNat with h1 | h1
        · exact absurd ⟨by omega, hi⟩ h0
        · exact h1
      · by_cases hi : i = 9
        · subst hi
          have h1 : x.toNat ≤ 1 := by
            have : ¬ (1 < x) := fun hn => h9 ⟨rfl, hn⟩
            omega
          have : x.toNat * 128 ^ 9 ≤ 1 * 128 ^ 9 := Nat.mul_le_mul_right _ h1
          omega
        · have h1 : x.toNat * 128 ^ i ≤ 127 * 128 ^ i := Nat.mul_le_mul_right _ (by omega)
          have h2 := pow128_le (show i + 1 ≤ 9 by omega)
          rw [Nat.pow_succ] at h2
          omega

/-- A number with a sign as one without. -/
def zz (n : Int) : Nat := if 0 ≤ n then (2 * n).toNat else (-2 * n - 1).toNat
def unzz (w : Nat) : Int := if w % 2 = 0 then ((w / 2 : Nat) : Int) else -((w / 2 : Nat) : Int) - 1
theorem zz_unzz (w : Nat) : zz (unzz w) = w := by unfold unzz zz; split <;> split <;> omega
theorem zz_lt {n : Int} (h : wfI .i64 n) : zz n < 2 ^ 64 := by
  simp [wfI, Lit.wf, IntKind.min, IntKind.max, IntKind.signed, IntKind.bits] at h
  unfold zz
  split <;> omega
theorem unzz_wf {w : Nat} (h : w < 2 ^ 64) : wfI .i64 (unzz w) := by
  simp [wfI, Lit.wf, IntKind.min, IntKind.max, IntKind.signed, IntKind.bits]
  unfold unzz
  split <;> omega

/-- The code of a number. -/
def code (n : Int) : List Int := cb (zz n)
theorem code_len (n : Int) : 1 ≤ (code n).length := cb_len _
/-- One number, and how many bytes it has. -/
def rd (l : List Int) : Option (Int × Nat) := (rdN 0 0 l).map fun p => (unzz p.1, p.2)

theorem rd_some {l : List Int} (hb : byt l) {n : Int} {k : Nat} (h : rd l = some (n, k)) : wfI .i64 n ∧ k = (code n).length ∧ l = code n ++ l.drop k := by
  unfold rd at h
  rw [Option.map_eq_some_iff] at h
  obtain ⟨⟨w, k'⟩, h1, h2⟩ := h
  cases h2
  obtain ⟨v, e1, e2, e3, _, e5⟩ := rd_inv l 0 0 w k' hb (by simp) h1
  have hv : w = v := by simpa using e1
  subst hv
  have hz : code (unzz w) = cb w := by unfold code; rw [zz_unzz]
  simp only [Nat.zero_add] at e2
  exact ⟨unzz_wf e5, by rw [hz, e2], by rw [hz, e2]; exact e3⟩

/-- The codes of numbers. -/
def wr (ns : List Int) : List Int := ns.flatMap code
theorem wr_cons (n : Int) (ns : List Int) : wr (n :: ns) = code n ++ wr ns := rfl
theorem wr_append (a b : List Int) : wr (a ++ b) = wr a ++ wr b := List.flatMap_append
theorem byt_drop {l : List Int} (h : byt l) (k : Nat) : byt (l.drop k) := fun x hx => h x (List.drop_subset _ _ hx)
/-- All of i64. -/
def wfNs (ns : List Int) : Prop := ∀ n ∈ ns, wfI .i64 n

end Go.Win

