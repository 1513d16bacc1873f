/- Pu: chapter 08: the sum of squared deviations. -/
import Derived.Test.YtpclnmpmammlfaaPuDiv
namespace Go.Win
open Go.Vc Go.Dec

/-! ### Numbers of 256 bits with one word -/

theorem times_loop (a b c d : Int) (ha : 0 ≤ a ∧ a < 18446744073709551616) (hb : 0 ≤ b ∧ b < 18446744073709551616) (hc : 0 ≤ c ∧ c < 18446744073709551616) (hd : 0 ≤ d ∧ d < 18446744073709551616)
    (i : Nat) (h1 : 1 ≤ i) (h4 : i ≤ 4) : exact_quad_times_l2 0 0 (i : Int) a b c d = some ⟨a, b, c, d⟩ := by
  unfold exact_quad_times_l2
  have step : ∀ j : Nat, j ≤ 3 → (fun s : Int × Int × Int × Int × Int × Int × Int => exact_quad_times_l2s s.1 s.2.1 s.2.2.1 s.2.2.2.1 s.2.2.2.2.1 s.2.2.2.2.2.1 s.2.2.2.2.2.2) (0, 0, (j : Int), a, b, c, d) = some (.inl (0, 0, ((j + 1 : Nat) : Int), a, b, c, d)) := by
    intro j hj
    have z : ∀ x : Int, 0 ≤ x ∧ x < 18446744073709551616 → math_bits_Add64 x 0 0 = some (x, 0) := fun x hx => by
      rw [add64 _ _ _ hx.1 (by decide) (by decide) (by decide)]
      congr 2 <;> omega
    show exact_quad_times_l2s 0 0 (j : Int) a b c d = _
    unfold exact_quad_times_l2s
    have hw : w64 ((j : Int) + 1) = ((j + 1 : Nat) : Int) := by rw [w64_id] <;> omega
    rw [decide_eq_true (by omega : (j : Int) < 4), cond_true, hw]
    match j, hj with
    | 0, _ => simp [idx, z a ha]
    | 1, _ => simp [idx, z b hb]
    | 2, _ => simp [idx, z c hc]
    | 3, _ => simp [idx, z d hd]
  have fin : loop (fun s : Int × Int × Int × Int × Int × Int × Int => exact_quad_times_l2s s.1 s.2.1 s.2.2.1 s.2.2.2.1 s.2.2.2.2.1 s.2.2.2.2.2.1 s.2.2.2.2.2.2) (0, 0, ((4 : Nat) : Int), a, b, c, d) = some ⟨a, b, c, d⟩ := loop_inr rfl
  match i, h1, h4 with
  | 4, _, _ => exact fin
  | 3, _, _ => rw [loop_inl (step 3 (by omega))]; exact fin
  | 2, _, _ => rw [loop_inl (step 2 (by omega)), loop_inl (step 3 (by omega))]; exact fin
  | 1, _, _ => rw [loop_inl (step 1 (by omega)), loop_inl (step 2 (by omega)), loop_inl (step 3 (by omega))]; exact fin

/-- The quad of a small number. -/
def q1 (a : Int) : exact_quad := ⟨a, 0, 0, 0⟩

theorem times0 {a x y : Int} (ha : 0 ≤ a) (hx : 0 ≤ x ∧ x < 18446744073709551616) (hy : 0 ≤ y ∧ y < 18446744073709551616) (h : a + x * y < 18446744073709551616) :
    exact_quad_times (q1 a) x y 0 = some (q1 (a + x * y)) := by
  have hp := (prod_nn hx hy).1
  unfold exact_quad_times q1
  rw [mul64 hx hy]
  have e1 : x * y / 18446744073709551616 = 0 := by omega
  have e2 : x * y % 18446744073709551616 = x * y := by omega
  have e3 : w64 ((0 : Int) + 1) = ((1 : Nat) : Int) := by rw [w64_id] <;> omega
  simp only [e1, e2, e3]
  have i0 : idx [a, 0, 0, 0] (0 : Int) = some a := rfl
  rw [i0]
  simp only [Option.bind_some]
  rw [add64 _ _ _ ha hp (by decide) (by decide)]
  simp only [Option.bind_some]
  have e4 : (a + x * y + 0) / 18446744073709551616 = 0 := by omega
  have e5 : (a + x * y + 0) % 18446744073709551616 = a + x * y := by omega
  rw [e4, e5]
  exact times_loop _ _ _ _ (by omega) (by omega) (by omega) (by omega) 1 (by omega) (by omega)

theorem times_zero {a x y : Int} (ha : 0 ≤ a ∧ a < 18446744073709551616) (hx : 0 ≤ x ∧ x < 18446744073709551616) (hy : 0 ≤ y ∧ y < 18446744073709551616) (h : x * y = 0) (s : Nat) (h1 : 1 ≤ s) (h2 : s ≤ 2) :
    exact_quad_times (q1 a) x y (s : Int) = some (q1 a) := by
  unfold exact_quad_times q1
  rw [mul64 hx hy, h]
  have e3 : w64 ((s : Int) + 1) = ((s + 1 : Nat) : Int) := by rw [w64_id] <;> omega
  have i0 : idx [a, 0, 0, 0] (s : Int) = some 0 := by
    match s, h1, h2 with
    | 1, _, _ => rfl
    | 2, _, _ => rfl
  simp only [i0, Option.bind_some]
  have z : math_bits_Add64 0 (0 % 18446744073709551616) 0 = some (0, 0) := rfl
  rw [z]
  simp only [Option.bind_some, e3]
  have r := times_loop a 0 0 0 (by omega) (by omega) (by omega) (by omega) (s + 1) (by omega) (by omega)
  match s, h1, h2 with
  | 1, _, _ => exact r
  | 2, _, _ => exact r

theorem minus1 {a b : Int} (ha : a < 18446744073709551616) (hb : 0 ≤ b) (h : b ≤ a) : exact_minus (q1 a) (q1 b) = some (q1 (a - b)) := by
  have s0 : math_bits_Sub64 a b 0 = some (a - b, 0) := by
    rw [sub64 _ _ _ (by omega) hb (by decide) (by decide) (by omega), if_neg (by omega)]
    congr 2; omega
  have z : math_bits_Sub64 0 0 0 = some (0, 0) := rfl
  unfold exact_minus exact_minus_l2
  rw [loop_inl (s' := (0, 1, a - b, 0, 0, 0)) (by
    show exact_minus_l2s _ _ _ _ _ _ _ = _
    simp [exact_minus_l2s, q1, idx, s0]; rfl)]
  rw [loop_inl (s' := (0, 2, a - b, 0, 0, 0)) (by
    show exact_minus_l2s _ _ _ _ _ _ _ = _
    simp [exact_minus_l2s, q1, idx, z]; rfl)]
  rw [loop_inl (s' := (0, 3, a - b, 0, 0, 0)) (by
    show exact_minus_l2s _ _ _ _ _ _ _ = _
    simp [exact_minus_l2s, q1, idx, z]; rfl)]
  rw [loop_inl (s' := (0, 4, a - b, 0, 0, 0)) (by
    show exact_minus_l2s _ _ _ _ _ _ _ = _
    simp [exact_minus_l2s, q1, idx, z]; rfl)]
  rw [loop_inr (r := q1 (a - b)) rfl]

theorem by1 {d n : Int} (hd : 0 ≤ d ∧ d < 18446744073709551616) (hn : 0 < n) : exact_by (q1 d) n = some (q1 (d / n), d % n) := by
  have z : math_bits_Div64 0 0 n = some (0, 0) := by
    rw [div64_small (by decide) (by decide) hn]
    simp
  have zd := div64_small hd.1 hd.2 hn
  unfold exact_by exact_by_l2
  rw [loop_inl (s' := (0, 2, d, 0, 0, 0)) (by
    show exact_by_l2s _ _ _ _ _ _ _ = _
    simp [exact_by_l2s, q1, idx, z]; rfl)]
  rw [loop_inl (s' := (0, 1, d, 0, 0, 0)) (by
    show exact_by_l2s _ _ _ _ _ _ _ = _
    simp [exact_by_l2s, q1, idx, z]; rfl)]
  rw [loop_inl (s' := (0, 0, d, 0, 0, 0)) (by
    show exact_by_l2s _ _ _ _ _ _ _ = _
    simp [exact_by_l2s, q1, idx, z]; rfl)]
  rw [loop_inl (s' := (d % n, -1, d / n, 0, 0, 0)) (by
    show exact_by_l2s _ _ _ _ _ _ _ = _
    simp [exact_by_l2s, q1, idx, zd]; rfl)]
  rw [loop_inr (r := (q1 (d / n), d % n)) rfl]

end Go.Win
