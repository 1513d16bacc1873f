/- Pu: chapter 21: the pruned summary. -/
import Derived.Test.YtmipeaidieflmaaPuPlace
set_option linter.unusedVariables false
set_option linter.unusedSimpArgs false
set_option linter.unnecessarySimpa false
set_option linter.unusedSectionVars false
namespace Go.Win
open Go.Vc Go.Dec

/-- The rank of step i of b. -/
def rk (N b : Int) (i : Nat) : Int := 1 + ((i : Int) * (N - 1)) / b

/-- The places that are kept. -/
def kept (K : Nat → Nat) : Nat → List Nat
  | 0 => []
  | i + 1 => kept K i ++ (if i = 0 ∨ K i ≠ K (i - 1) then [K i] else [])

theorem kept_len (K : Nat → Nat) : ∀ m, (kept K m).length ≤ m := by
  intro m
  induction m with
  | zero => exact Nat.le_refl _
  | succ m ih =>
    unfold kept
    rw [List.length_append]
    split
    · rw [List.length_singleton]; omega
    · rw [List.length_nil]; omega

/-- What is kept: from the first to the last, one step of the ranks apart. -/
structure Kp (K : Nat → Nat) (m : Nat) (c : List Nat) : Prop where
  pos : 0 < c.length
  first : c.getD 0 0 = K 0
  last : c.getD (c.length - 1) 0 = K (m - 1)
  step : ∀ i, i + 1 < c.length → ∃ t, 1 ≤ t ∧ t < m ∧ c.getD i 0 = K (t - 1) ∧ c.getD (i + 1) 0 = K t ∧ K (t - 1) < K t

theorem getD_app (c : List Nat) (x : Nat) (i : Nat) (h : i < c.length) : (c ++ [x]).getD i 0 = c.getD i 0 := by
  simp only [List.getD_eq_getElem?_getD, List.getElem?_append_left h]
theorem getD_app' (c : List Nat) (x : Nat) : (c ++ [x]).getD c.length 0 = x := by
  simp [List.getD_eq_getElem?_getD]

theorem kept_kp {K : Nat → Nat} {M : Nat} (hmono : ∀ i, i + 1 < M → K i ≤ K (i + 1)) : ∀ m, 1 ≤ m → m ≤ M → Kp K m (kept K m) := by
  intro m h1
  induction m with
  | zero => omega
  | succ m ih =>
    intro hM
    by_cases h0 : m = 0
    · subst h0
      refine ⟨by simp [kept], by simp [kept], by simp [kept], fun i hi => ?_⟩
      simp [kept] at hi
    · have hk := ih (by omega) (by omega)
      unfold kept
      by_cases hne : K m ≠ K (m - 1)
      · rw [if_pos (.inr hne)]
        have hlt : K (m - 1) < K m := by
          have := hmono (m - 1) (by omega)
          rw [show m - 1 + 1 = m by omega] at this
          omega
        have hl : (kept K m ++ [K m]).length = (kept K m).length + 1 := by simp
        refine ⟨by omega, ?_, ?_, fun i hi => ?_⟩
        · rw [getD_app _ _ _ hk.pos]; exact hk.first
        · rw [hl, Nat.add_sub_cancel, getD_app', Nat.add_sub_cancel]
        · rw [hl] at hi
          rcases Nat.lt_or_ge (i + 1) (kept K m).length with hlt' | hge
          · obtain ⟨t, t1, t2, t3, t4, t5⟩ := hk.step i hlt'
            exact ⟨t, t1, by omega, by rw [getD_app _ _ _ (by omega)]; exact t3, by rw [getD_app _ _ _ hlt']; exact t4, t5⟩
          · have hie : i + 1 = (kept K m).length := by omega
            refine ⟨m, by omega, by omega, ?_, ?_, hlt⟩
            · rw [getD_app _ _ _ (by omega)]
              have := hk.last
              rw [← hie, Nat.add_sub_cancel] at this
              exact this
            · rw [hie, getD_app']
      · have he : K m = K (m - 1) := Classical.not_not.1 hne
        rw [if_neg (by intro h; rcases h with h | h; exact h0 h; exact hne h), List.append_nil]
        refine ⟨hk.pos, hk.first, ?_, fun i hi => ?_⟩
        · rw [Nat.add_sub_cancel, he]; exact hk.last
        · obtain ⟨t, t1, t2, t3⟩ := hk.step i hi
          exact ⟨t, t1, by omega, t3⟩

/-- Ranks grow, by at most a step. -/
theorem rk_step {N b : Int} (hN : 1 ≤ N) (hb : 1 ≤ b) (i : Nat) : rk N b i ≤ rk N b (i + 1) ∧ rk N b (i + 1) - rk N b i ≤ (N - 1 + b - 1) / b := by
  unfold rk
  have e : ((i + 1 : Nat) : Int) * (N - 1) = (i : Int) * (N - 1) + (N - 1) := by rw [Int.natCast_add, Int.add_mul]; simp
  rw [e]
  generalize (i : Int) * (N - 1) = X
  have h1 := Int.mul_ediv_add_emod X b
  have h2 := Int.emod_nonneg X (show b ≠ 0 by omega)
  have h3 := Int.emod_lt_of_pos X (show 0 < b by omega)
  have e2 : (X + (N - 1)) / b = X / b + (X % b + (N - 1)) / b := by
    have : X + (N - 1) = (X % b + (N - 1)) + b * (X / b) := by omega
    rw [this, Int.add_mul_ediv_left _ _ (by omega)]
    omega
  have h4 : 0 ≤ (X % b + (N - 1)) / b := Int.ediv_nonneg (by omega) (by omega)
  have h5 : (X % b + (N - 1)) / b ≤ (N - 1 + b - 1) / b := Int.ediv_le_ediv (by omega) (by omega)
  rw [e2]
  omega

theorem rk_mono {N b : Int} (hN : 1 ≤ N) (hb : 1 ≤ b) {i j : Nat} (h : i ≤ j) : rk N b i ≤ rk N b j := by
  induction j with
  | zero => have : i = 0 := by omega
            subst this; exact Int.le_refl _
  | succ j ih =>
    rcases Nat.lt_or_ge i (j + 1) with hlt | hge
    · exact Int.le_trans (ih (by omega)) (rk_step hN hb j).1
    · have : i = j + 1 := by omega
      subst this; exact Int.le_refl _

theorem rk_zero (N b : Int) : rk N b 0 = 1 := by unfold rk; simp

theorem rk_last {N : Int} {b : Nat} (hb : 1 ≤ b) : rk N (b : Int) b = N := by
  unfold rk
  rw [Int.mul_ediv_cancel_left _ (by omega)]
  omega

theorem rk_range {N : Int} {b : Nat} (hN : 1 ≤ N) (hb : 1 ≤ b) {i : Nat} (hi : i ≤ b) : 1 ≤ rk N (b : Int) i ∧ rk N (b : Int) i ≤ N := by
  have h1 := rk_mono hN (show (1 : Int) ≤ (b : Int) by omega) (Nat.zero_le i)
  have h2 := rk_mono hN (show (1 : Int) ≤ (b : Int) by omega) hi
  rw [rk_zero] at h1
  rw [rk_last hb] at h2
  exact ⟨h1, h2⟩

open Classical in
/-- The place of a rank. -/
noncomputable def kOf (l : List api_Entry) (n : Int) : Nat := if h : ∃ k, Place l n k then Classical.choose h else 0

theorem kOf_place {l : List api_Entry} {N n : Int} (h : OkR l N) (hn : 1 ≤ n ∧ n ≤ N) (hl : l.length ≤ 1048576) : Place l n (kOf l n) := by
  obtain ⟨k, hk, _⟩ := place_first h hn hl
  unfold kOf
  rw [dif_pos ⟨k, hk⟩]
  exact Classical.choose_spec (⟨k, hk⟩ : ∃ k, Place l n k)

section
variable {l : List api_Entry} {N : Int} (h : OkR l N) (hl : l.length ≤ 1048576) (hpos : 0 < l.length) {b : Nat} (hb1 : 1 ≤ b) (hb2 : b ≤ 65536)
include h hl hpos hb1 hb2

omit hl in
theorem rk_num {i : Nat} (hi : i ≤ b) : w64 (1 + w64 (Int.tdiv (w64 ((i : Int) * w64 (N - 1))) (b : Int))) = rk N (b : Int) i := by
  have hN : 1 ≤ N := by have := h.rng 0 hpos; omega
  have hN1 := h.n1
  have e1 : w64 (N - 1) = N - 1 := by rw [w64_id] <;> omega
  have hX0 : 0 ≤ (i : Int) * (N - 1) := Int.mul_nonneg (by omega) (by omega)
  have hX1 : (i : Int) * (N - 1) ≤ 65536 * 1099511627776 := Int.mul_le_mul (by omega) (by omega) (by omega) (by omega)
  have e2 : w64 ((i : Int) * (N - 1)) = (i : Int) * (N - 1) := by rw [w64_id] <;> omega
  have e3 : Int.tdiv ((i : Int) * (N - 1)) (b : Int) = ((i : Int) * (N - 1)) / (b : Int) := Int.tdiv_eq_ediv_of_nonneg hX0
  have hr := rk_range hN hb1 hi
  unfold rk at hr
  rw [e1, e2, e3, w64_id (n := ((i : Int) * (N - 1)) / (b : Int)) (by omega) (by omega), w64_id (by omega) (by omega)]
  rfl

theorem kk_mono : ∀ i, i + 1 < b + 1 → kOf l (rk N (b : Int) i) ≤ kOf l (rk N (b : Int) (i + 1)) := fun i hi => by
  have hN : 1 ≤ N := by have := h.rng 0 hpos; omega
  exact place_mono (rk_step hN (by omega) i).1 (kOf_place h (rk_range hN hb1 (by omega)) hl) (kOf_place h (rk_range hN hb1 (by omega)) hl)

theorem prune_loop (r : api_Ranks) (hr1 : r.Entries = l) (hr2 : r.N = N) :
    rank_Prune_l5 r (b : Int) (-1) 0 0 [] = some (⟨N, (kept (fun i => kOf l (rk N (b : Int) i)) (b + 1)).map (ent l)⟩, 0) := by
  have hN : 1 ≤ N := by have := h.rng 0 hpos; omega
  unfold rank_Prune_l5
  obtain ⟨v, hv, hQ⟩ := loop_ind (f := fun s : Int × Int × Int × List api_Entry => rank_Prune_l5s r (b : Int) s.1 s.2.1 s.2.2.1 s.2.2.2)
    (fun s => ∃ i : Nat, i ≤ b + 1 ∧ s = (if i = 0 then -1 else (kOf l (rk N (b : Int) (i - 1)) : Int), if i = 0 then 0 else (kOf l (rk N (b : Int) (i - 1)) : Int), (i : Int), (kept (fun i => kOf l (rk N (b : Int) i)) i).map (ent l)))
    (fun s => b + 1 - s.2.2.1.toNat) (fun v => v = (⟨N, (kept (fun i => kOf l (rk N (b : Int) i)) (b + 1)).map (ent l)⟩, 0)) (-1, 0, 0, []) ⟨0, Nat.zero_le _, rfl⟩ (by
      rintro _ ⟨i, hi, rfl⟩
      simp only
      unfold rank_Prune_l5s
      rw [hr1, hr2]
      by_cases hlt : i ≤ b
      · left
        rw [decide_eq_true (by omega : (i : Int) ≤ (b : Int)), cond_true, ck_pos (by rw [decide_eq_true_eq]; omega), rk_num h hpos hb1 hb2 hlt]
        have hn := rk_range hN hb1 hlt
        have hpl := kOf_place h hn hl
        have hplace : rank_place l (rk N (b : Int) i) (if i = 0 then 0 else (kOf l (rk N (b : Int) (i - 1)) : Int)) = some (kOf l (rk N (b : Int) i) : Int) := by
          by_cases h0 : i = 0
          · rw [if_pos h0]
            obtain ⟨k, k1, k2, _⟩ := place_first h hn hl
            rw [k2, place_unique k1 hpl]
          · rw [if_neg h0]
            have hprev := kOf_place h (rk_range hN hb1 (show i - 1 ≤ b by omega)) hl
            have hle : rk N (b : Int) (i - 1) ≤ rk N (b : Int) i := rk_mono hN (by omega) (by omega)
            obtain ⟨k, _, k1, k2⟩ := rank_place_spec h hn hl hprev.lt (fun j hj => crit_up hle (hprev.low j hj))
            rw [k2, place_unique k1 hpl]
        rw [hplace]
        simp only [Option.bind_some]
        have ew : w64 ((i : Int) + 1) = ((i + 1 : Nat) : Int) := by rw [w64_id] <;> omega
        have hkl := kept_len (fun i => kOf l (rk N (b : Int) i)) i
        rw [ew]
        by_cases hne : i = 0 ∨ kOf l (rk N (b : Int) i) ≠ kOf l (rk N (b : Int) (i - 1))
        · have c : ((kOf l (rk N (b : Int) i) : Int) != (if i = 0 then -1 else (kOf l (rk N (b : Int) (i - 1)) : Int))) = true := by
            rw [bne_iff_ne]
            rcases hne with h0 | h0
            · rw [if_pos h0]; omega
            · split <;> omega
          rw [c, cond_true, ent_idx hpl.lt]
          simp only [Option.bind_some]
          rw [ck_pos (by rw [decide_eq_true_eq, List.length_map, List.length_singleton]; omega)]
          refine ⟨_, rfl, ⟨i + 1, by omega, ?_⟩, by show b + 1 - (((i + 1 : Nat) : Int)).toNat < b + 1 - (i : Int).toNat; omega⟩
          have hk : kept (fun i => kOf l (rk N (b : Int) i)) (i + 1) = kept (fun i => kOf l (rk N (b : Int) i)) i ++ [kOf l (rk N (b : Int) i)] := by
            show _ ++ (if _ then _ else _) = _
            rw [if_pos hne]
          rw [hk, List.map_append]
          simp
        · have hne' := not_or.1 hne
          have he : kOf l (rk N (b : Int) i) = kOf l (rk N (b : Int) (i - 1)) := Classical.not_not.1 hne'.2
          have c : ((kOf l (rk N (b : Int) i) : Int) != (if i = 0 then -1 else (kOf l (rk N (b : Int) (i - 1)) : Int))) = false := by
            rw [bne_eq_false_iff_eq, if_neg hne'.1, he]
          rw [c, cond_false]
          refine ⟨_, rfl, ⟨i + 1, by omega, ?_⟩, by show b + 1 - (((i + 1 : Nat) : Int)).toNat < b + 1 - (i : Int).toNat; omega⟩
          have hk : kept (fun i => kOf l (rk N (b : Int) i)) (i + 1) = kept (fun i => kOf l (rk N (b : Int) i)) i := by
            show _ ++ (if _ then _ else _) = _
            rw [if_neg hne, List.append_nil]
          rw [hk, if_neg hne'.1]
          simp [he]
      · right
        have hi2 : i = b + 1 := by omega
        subst hi2
        rw [decide_eq_false (by omega), cond_false]
        exact ⟨_, rfl, rfl⟩)
  rw [hv, hQ]

/-- What was pruned is in order, and its gap. -/
theorem prune_ok : OkR ((kept (fun i => kOf l (rk N (b : Int) i)) (b + 1)).map (ent l)) N ∧
    gapR ((kept (fun i => kOf l (rk N (b : Int) i)) (b + 1)).map (ent l)) ≤ gapR l + (N - 1 + (b : Int) - 1) / (b : Int) := by
  have hN : 1 ≤ N := by have := h.rng 0 hpos; omega
  have hkp := kept_kp (K := fun i => kOf l (rk N (b : Int) i)) (M := b + 1) (kk_mono h hl hpos hb1 hb2) (b + 1) (by omega) (Nat.le_refl _)
  generalize hc : kept (fun i => kOf l (rk N (b : Int) i)) (b + 1) = c at hkp ⊢
  have hpl : ∀ t, t ≤ b → Place l (rk N (b : Int) t) (kOf l (rk N (b : Int) t)) := fun t ht => kOf_place h (rk_range hN hb1 ht) hl
  have hent : ∀ i, i < c.length → ent (c.map (ent l)) i = ent l (c.getD i 0) := fun i hi => by
    rw [ent_get (by rw [List.length_map]; exact hi), List.getElem_map]
    simp [List.getD_eq_getElem?_getD, hi]
  have hk0 : kOf l (rk N (b : Int) 0) = 0 := by
    have := hpl 0 (by omega)
    rw [rk_zero] at this ⊢
    refine place_unique this ⟨hpos, fun j hj => by omega, fun h1 => ?_⟩
    have g1 := h.rng 0 hpos
    have g2 := h.rng 1 h1
    have g3 := h.first hpos
    have g4 := h.up 0 h1
    unfold crit
    omega
  have hkb : kOf l (rk N (b : Int) b) = l.length - 1 := by
    have := hpl b (Nat.le_refl _)
    rw [rk_last hb1] at this ⊢
    refine place_unique this ⟨by omega, fun j hj => ?_, fun h1 => by omega⟩
    have g1 := h.rng (j + 1) (by omega)
    have g2 := h.last hpos
    have g3 := up_lt h (show j < l.length - 1 by omega) (by omega)
    unfold crit
    omega
  have hmem : ∀ i, i < c.length → ∃ t, t ≤ b ∧ c.getD i 0 = kOf l (rk N (b : Int) t) := fun i hi => by
    cases i with
    | zero => exact ⟨0, by omega, hkp.first⟩
    | succ i =>
      obtain ⟨t, t1, t2, t3, t4, _⟩ := hkp.step i hi
      exact ⟨t, by omega, t4⟩
  have hlt : ∀ i, i < c.length → c.getD i 0 < l.length := fun i hi => by
    obtain ⟨t, t1, t2⟩ := hmem i hi
    rw [t2]; exact (hpl t t1).lt
  refine ⟨⟨h.n0, h.n1, by rw [List.length_map]; constructor <;> intro hx <;> (have := hkp.pos; omega), fun i hi => ?_, fun i hi => ?_, fun h0 => ?_, fun h0 => ?_⟩, ?_⟩
  · rw [List.length_map] at hi
    rw [hent i hi]
    exact h.rng _ (hlt i hi)
  · rw [List.length_map] at hi
    rw [hent i (by omega), hent (i + 1) hi]
    obtain ⟨t, t1, t2, t3, t4, t5⟩ := hkp.step i hi
    refine up_lt h ?_ (hlt (i + 1) hi)
    rw [t3, t4]; exact t5
  · rw [List.length_map] at h0
    rw [hent 0 h0, hkp.first]
    show (ent l (kOf l (rk N (b : Int) 0))).Max = 1
    rw [hk0]; exact h.first hpos
  · rw [List.length_map] at h0 ⊢
    rw [hent _ (by omega), hkp.last, Nat.add_sub_cancel]
    show (ent l (kOf l (rk N (b : Int) b))).Min = N
    rw [hkb]; exact h.last hpos
  · have hG : 1 ≤ gapR l := by unfold gapR; rw [if_neg (by omega)]; exact (gapTo_ge _).1
    have hC : 0 ≤ (N - 1 + (b : Int) - 1) / (b : Int) := Int.ediv_nonneg (by omega) (by omega)
    have key : ∀ m, m ≤ c.length → gapTo (c.map (ent l)) m ≤ gapR l + (N - 1 + (b : Int) - 1) / (b : Int) := by
      intro m
      induction m with
      | zero => intro _; show (1 : Int) ≤ _; omega
      | succ m ih =>
        intro hm
        unfold gapTo
        by_cases h0 : m = 0
        · rw [if_pos h0]; omega
        · rw [if_neg h0]
          have hih := ih (by omega)
          obtain ⟨t, t1, t2, t3, t4, t5⟩ := hkp.step (m - 1) (by omega)
          rw [show m - 1 + 1 = m by omega] at t4
          have a1 := (place_near h (rk_range hN hb1 (show t ≤ b by omega)) (hpl t (by omega))).2
          have a2 := (place_near h (rk_range hN hb1 (show t - 1 ≤ b by omega)) (hpl (t - 1) (by omega))).1
          have a3 := (rk_step hN (show (1 : Int) ≤ (b : Int) by omega) (t - 1)).2
          rw [show t - 1 + 1 = t by omega] at a3
          have e1 : (ent (c.map (ent l)) m).Max = (ent l (kOf l (rk N (b : Int) t))).Max := by rw [hent m (by omega), t4]
          have e2 : (ent (c.map (ent l)) (m - 1)).Min = (ent l (kOf l (rk N (b : Int) (t - 1)))).Min := by rw [hent (m - 1) (by omega), t3]
          rw [e1, e2]
          split <;> omega
    unfold gapR
    rw [List.length_map]
    have := key c.length (Nat.le_refl _)
    unfold gapR at this hG
    split <;> omega
end

end Go.Win

