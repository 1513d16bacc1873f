/- Pu: chapter 08: the law of sums with weights that halve. -/
import Derived.Test.YtkdlfgjiinlkdaaPuHalves
namespace Go.Win
open Go.Vc Go.Dec

def badH (p1 : Int) (p : api_Item) : Bool := ((decide (p.V < (0:Int))) || (decide (p.T < (0:Int)))) || (decide (p.T > p1))

def zF : api_Fraction × Bool := (⟨⟨0, 0⟩, ⟨0, 0⟩⟩, false)

theorem first_loop (p0 : List api_Item) (p1 p2 : Int) (hm : p0.length ≤ maxLen) :
    exact_Halve_l3 p0 p1 p2 0 = cond ((List.range p0.length).any fun i => match p0[i]? with | none => false | some p => badH p1 p) (some zF) (exact_Halve_l8 p0 p1 p2 0 0 0) := by
  unfold exact_Halve_l3
  refine loop_all (fun i hi => ?_) ?_
  · unfold exact_Halve_l3s
    simp only [Int.ofNat_lt, hi, decide_true, cond_true, idx_nat, get_some hi, Option.bind_some, succ_nat hi hm]
    rfl
  · unfold exact_Halve_l3s
    simp only [Int.lt_irrefl, decide_false, cond_false]

theorem pw {k : Nat} (hk : k ≤ 63) : (2 : Int) ^ k ≤ 9223372036854775808 := by
  have := Nat.pow_le_pow_right (n := 2) (by decide) hk
  have e : (2 : Nat) ^ 63 = 9223372036854775808 := by decide
  rw [show (2 : Int) ^ k = ((2 ^ k : Nat) : Int) by simp]
  omega

theorem leftW_ok {a : api_Wide} (ha : okW a) (k : Nat) : okW (leftW a k).1 := by
  unfold leftW
  split
  · exact ofW_ok (Int.mul_nonneg (wv_range ha).1 (Int.le_of_lt (pow_pos' k))) (by assumption)
  · unfold okW; simp

theorem one_left {k : Nat} (hk : k ≤ 63) : (leftW (ref02_Of 1) k).2 = true := by
  unfold leftW
  have : wv (ref02_Of 1) = 1 := by simp [wv, ref02_Of]
  rw [this, Int.one_mul, if_pos]
  have := pw hk
  omega

theorem halves_loop (p0 : List api_Item) (p1 p2 : Int) (hm : p0.length ≤ maxLen) (h1 : 0 ≤ p1 ∧ p1 ≤ 16777216) (h2 : 1 ≤ p2 ∧ p2 ≤ 64) (y3 : api_Wide × Bool) (hy : ref02_Left (ref02_Of 1) (w64 (p2 - 1)) = some y3) (hy2 : y3.2 = true) :
    ∀ (k i : Nat) (acc : api_Wide), i + k = p0.length → okW acc →
      ∃ r, ref08_Halve_l3 p0 p1 p2 y3 (i : Int) acc.Hi acc.Lo = some r ∧
        ((∃ j, i ≤ j ∧ ∃ p, p0[j]? = some p ∧ badH p1 p = true) → r = zF) ∧
        ((¬ ∃ j, i ≤ j ∧ ∃ p, p0[j]? = some p ∧ badH p1 p = true) → exact_Halve_l8 p0 p1 p2 (i : Int) acc.Hi acc.Lo = some r) := by
  intro k
  have e1 : ∀ acc : api_Wide, (⟨acc.Hi, acc.Lo⟩ : api_Wide) = acc := fun _ => rfl
  induction k with
  | zero =>
    intro i acc hi ha
    have hi : i = p0.length := by omega
    subst hi
    unfold ref08_Halve_l3 exact_Halve_l8
    refine ⟨(⟨acc, y3.1⟩, true), ?_, ?_, ?_⟩
    · rw [loop_inr (r := (⟨acc, y3.1⟩, true))]
      simp only [ref08_Halve_l3s, Int.lt_irrefl, decide_false, cond_false, e1]
      rfl
    · rintro ⟨j, hj, p, hp, _⟩
      have := (List.getElem?_eq_some_iff.1 hp).1
      omega
    · intro _
      rw [loop_inr (r := (⟨acc, y3.1⟩, true))]
      have hl : wide_Left (wide_Of 1) (w64 (p2 - 1)) = some y3 := by
        have hw : w64 (p2 - 1) = ((p2 - 1).toNat : Int) := by rw [w64_id] <;> omega
        rw [hw] at hy ⊢
        rw [ref_left (of_ok (by decide)) (by omega)] at hy
        rw [wide_of, wide_left (of_ok (by decide)) (by omega)]
        exact hy
      simp only [exact_Halve_l8s, Int.lt_irrefl, decide_false, cond_false, e1, hl, Option.bind_some, hy2, Bool.not_true, Option.map_some]
  | succ k ih =>
    intro i acc hi ha
    have hlt : i < p0.length := by omega
    have sk : w64 ((i : Int) + 1) = ((i + 1 : Nat) : Int) := by rw [succ_nat hlt hm]; simp
    have split : (∃ j, i ≤ j ∧ ∃ p, p0[j]? = some p ∧ badH p1 p = true) ↔ badH p1 p0[i] = true ∨ ∃ j, i + 1 ≤ j ∧ ∃ p, p0[j]? = some p ∧ badH p1 p = true := by
      constructor
      · rintro ⟨j, hj, p, hp, hb⟩
        by_cases hji : j = i
        · subst hji
          rw [get_some hlt] at hp
          cases hp
          exact .inl hb
        · exact .inr ⟨j, by omega, p, hp, hb⟩
      · rintro (hb | ⟨j, hj, p, hp, hb⟩)
        · exact ⟨i, Nat.le_refl _, _, get_some hlt, hb⟩
        · exact ⟨j, by omega, p, hp, hb⟩
    rw [split]
    have lt : decide ((i : Int) < (p0.length : Int)) = true := by rw [decide_eq_true_eq]; omega
    unfold ref08_Halve_l3 exact_Halve_l8 at ih ⊢
    cases hb : badH p1 p0[i] with
    | true =>
      have hb' : (((decide (p0[i].V < (0:Int))) || (decide (p0[i].T < (0:Int)))) || (decide (p0[i].T > p1))) = true := hb
      refine ⟨zF, ?_, fun _ => rfl, fun h => absurd (.inl rfl) h⟩
      rw [loop_inr (r := zF)]
      simp only [ref08_Halve_l3s, lt, cond_true, idx_nat, get_some hlt, Option.bind_some, hb']
      rfl
    | false =>
      have hb' : (((decide (p0[i].V < (0:Int))) || (decide (p0[i].T < (0:Int)))) || (decide (p0[i].T > p1))) = false := hb
      have hr := hb'
      simp only [Bool.or_eq_false_iff, decide_eq_false_iff_not] at hr
      have hw : w64 (p1 - p0[i].T) = p1 - p0[i].T := by rw [w64_id] <;> omega
      by_cases hs : p1 - p0[i].T ≥ p2
      · obtain ⟨r, r1, r2, r3⟩ := ih (i + 1) acc (by omega) ha
        refine ⟨r, ?_, fun h => r2 (h.resolve_left (by simp)), fun h => ?_⟩
        · rw [loop_inl (s' := (((i + 1 : Nat) : Int), acc.Hi, acc.Lo))]
          · exact r1
          · simp only [ref08_Halve_l3s, lt, cond_true, idx_nat, get_some hlt, Option.bind_some, hb', cond_false, hw, hs, decide_true, sk]
        · rw [loop_inl (s' := (((i + 1 : Nat) : Int), acc.Hi, acc.Lo))]
          · exact r3 fun hh => h (.inr hh)
          · simp only [exact_Halve_l8s, lt, cond_true, idx_nat, get_some hlt, Option.bind_some, hw, hs, decide_true, sk]
      · have oV := of_ok (wu_range p0[i].V)
        have hk : w64 (w64 (p2 - 1) - (p1 - p0[i].T)) = ((p2 - 1 - (p1 - p0[i].T)).toNat : Int) := by
          rw [w64_id (n := p2 - 1) (by omega) (by omega), w64_id] <;> omega
        have hk63 : (p2 - 1 - (p1 - p0[i].T)).toNat ≤ 63 := by omega
        have rl := ref_left oV hk63
        have wl := wide_left oV hk63
        have ol := leftW_ok oV (p2 - 1 - (p1 - p0[i].T)).toNat
        generalize (p2 - 1 - (p1 - p0[i].T)).toNat = q at *
        cases hq : (leftW (ref02_Of (wu64 p0[i].V)) q).2 with
        | false =>
          refine ⟨zF, ?_, fun _ => rfl, fun _ => ?_⟩
          · rw [loop_inr (r := zF)]
            simp only [ref08_Halve_l3s, lt, cond_true, idx_nat, get_some hlt, Option.bind_some, hb', cond_false, hw, hs, decide_false, hk, rl, hq, Bool.not_false]
            rfl
          · rw [loop_inr (r := zF)]
            simp only [exact_Halve_l8s, lt, cond_true, idx_nat, get_some hlt, Option.bind_some, cond_false, hw, hs, decide_false, hk, wide_of, wl, hq, Bool.not_false]
            rfl
        | true =>
          have ad := wide_add ha ol
          by_cases hc : wv acc + wv (leftW (ref02_Of (wu64 p0[i].V)) q).1 < 340282366920938463463374607431768211456
          · rw [if_pos hc] at ad
            have o2 := ofW_ok (by have := wv_range ha; have := wv_range ol; omega) hc
            obtain ⟨r, r1, r2, r3⟩ := ih (i + 1) _ (by omega) o2
            refine ⟨r, ?_, fun h => r2 (h.resolve_left (by simp)), fun h => ?_⟩
            · rw [loop_inl (s' := (((i + 1 : Nat) : Int), (ofW (wv acc + wv (leftW (ref02_Of (wu64 p0[i].V)) q).1)).Hi, (ofW (wv acc + wv (leftW (ref02_Of (wu64 p0[i].V)) q).1)).Lo))]
              · exact r1
              · simp only [ref08_Halve_l3s, lt, cond_true, idx_nat, get_some hlt, Option.bind_some, hb', cond_false, hw, hs, decide_false, hk, rl, hq, Bool.not_true, e1, ref_wide_add, ad, sk]
            · rw [loop_inl (s' := (((i + 1 : Nat) : Int), (ofW (wv acc + wv (leftW (ref02_Of (wu64 p0[i].V)) q).1)).Hi, (ofW (wv acc + wv (leftW (ref02_Of (wu64 p0[i].V)) q).1)).Lo))]
              · exact r3 fun hh => h (.inr hh)
              · simp only [exact_Halve_l8s, lt, cond_true, idx_nat, get_some hlt, Option.bind_some, cond_false, hw, hs, decide_false, hk, wide_of, wl, hq, Bool.not_true, e1, ad, sk]
          · rw [if_neg hc] at ad
            refine ⟨zF, ?_, fun _ => rfl, fun _ => ?_⟩
            · rw [loop_inr (r := zF)]
              simp only [ref08_Halve_l3s, lt, cond_true, idx_nat, get_some hlt, Option.bind_some, hb', cond_false, hw, hs, decide_false, hk, rl, hq, Bool.not_true, e1, ref_wide_add, ad, Bool.not_false]
              rfl
            · rw [loop_inr (r := zF)]
              simp only [exact_Halve_l8s, lt, cond_true, idx_nat, get_some hlt, Option.bind_some, cond_false, hw, hs, decide_false, hk, wide_of, wl, hq, Bool.not_true, e1, ad, Bool.not_false]
              rfl

theorem halve_eq (p0 : List api_Item) (p1 p2 : Int) (hm : p0.length ≤ maxLen) : ∃ r, exact_Halve p0 p1 p2 = some r ∧ ref08_Halve p0 p1 p2 = some r := by
  unfold exact_Halve ref08_Halve
  show ∃ r, cond _ _ _ = some r ∧ cond _ _ _ = some r
  have et : ref06_Tick p1 = exact_tick p1 := rfl
  rw [et]
  cases hc : (((!(exact_tick p1)) || (decide (p2 < (1:Int)))) || (decide (p2 > (64:Int)))) with
  | true => exact ⟨_, rfl, rfl⟩
  | false =>
    simp only [Bool.or_eq_false_iff, decide_eq_false_iff_not, Bool.not_eq_false'] at hc
    have ht : 0 ≤ p1 ∧ p1 ≤ 16777216 := by
      have := hc.1.1
      unfold exact_tick at this
      simp only [Bool.and_eq_true, decide_eq_true_eq] at this
      omega
    rw [cond_false, cond_false, first_loop p0 p1 p2 hm]
    have hw : w64 (p2 - 1) = ((p2 - 1).toNat : Int) := by rw [w64_id] <;> omega
    have hk : (p2 - 1).toNat ≤ 63 := by omega
    have hl : ref02_Left (ref02_Of 1) (w64 (p2 - 1)) = some (leftW (ref02_Of 1) (p2 - 1).toNat) := by
      rw [hw]
      exact ref_left (of_ok (by decide)) hk
    simp only [hl, Option.bind_some]
    obtain ⟨r, r1, r2, r3⟩ := halves_loop p0 p1 p2 hm ht (by omega) _ hl (one_left hk) p0.length 0 ⟨0, 0⟩ (by omega) (by unfold okW; simp)
    cases hb : ((List.range p0.length).any fun i => match p0[i]? with | none => false | some p => badH p1 p) with
    | true =>
      obtain ⟨i, hi, hbi⟩ := any_iff.1 hb
      have : r = zF := r2 ⟨i, Nat.zero_le _, p0[i], get_some hi, by rw [get_some hi] at hbi; exact hbi⟩
      exact ⟨zF, rfl, by rw [← this]; exact r1⟩
    | false =>
      refine ⟨r, r3 ?_, r1⟩
      rintro ⟨j, _, p, hp, hbp⟩
      have hj := (List.getElem?_eq_some_iff.1 hp).1
      have : ((List.range p0.length).any fun i => match p0[i]? with | none => false | some p => badH p1 p) = true := any_iff.2 ⟨j, hj, by rw [hp]; exact hbp⟩
      rw [hb] at this
      cases this

theorem law08_ExactHalves_true (p0 : List api_Item) (p1 p2 : Int) (h0 : wfL wf_api_Item p0) (_ : wfI .i64 p1) (_ : wfI .i64 p2) : law08_ExactHalves p0 p1 p2 = some true := by
  unfold law08_ExactHalves
  by_cases hc : (p0.length : Int) > 300
  · rw [decide_eq_true hc, cond_true, law08_awake_true]; rfl
  · obtain ⟨r, hr, hr2⟩ := halve_eq p0 p1 p2 h0.1
    rw [decide_eq_false hc, cond_false, hr, hr2, law08_awake_true]
    simp only [Option.bind_some, beq_self_eq_true, Bool.and_self, gd_true]

end Go.Win
