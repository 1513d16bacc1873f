/- Pu: the package that turns numbers into arguments. -/
import Derived.Test.YtpclnmpmammlfaaPu09
namespace Go.Win
open Go.Vc Go.Dec

theorem mod_ok (a : Int) {n : Int} (h1 : 1 ≤ n) (h2 : n ≤ 4611686018427387904) : ∃ r, made_Mod a n = some r ∧ 0 ≤ r ∧ r < n := by
  have g1 := Int.tmod_lt_of_pos a (show 0 < n by omega)
  have g2 := Int.lt_tmod_of_pos a (show 0 < n by omega)
  unfold made_Mod
  have hk : decide (n ≠ 0) = true := by rw [decide_eq_true_eq]; omega
  rw [hk, ck_true]
  by_cases h : a.tmod n < 0
  · have e : w64 (a.tmod n + n) = a.tmod n + n := by rw [w64_id] <;> omega
    rw [decide_eq_true h, cond_true, e]
    exact ⟨_, rfl, by omega, by omega⟩
  · rw [decide_eq_false h, cond_false]
    exact ⟨_, rfl, by omega, by omega⟩

theorem gap_ok (a : Int) {w : Int} (h1 : 1 ≤ w) (h2 : w ≤ 1000) : ∃ r, made_Gap a w = some r ∧ 0 ≤ r ∧ r ≤ 2 * w + 1 := by
  unfold made_Gap
  obtain ⟨q, hq, _, _⟩ := mod_ok a (n := 8) (by decide) (by decide)
  have e1 : w64 (2 * w) = 2 * w := by rw [w64_id] <;> omega
  have e2 : w64 (2 * w + 2) = 2 * w + 2 := by rw [w64_id] <;> omega
  obtain ⟨r, hr, r1, r2⟩ := mod_ok (w64 (a.tdiv 8)) (n := 2 * w + 2) (by omega) (by omega)
  obtain ⟨s, hs, s1, s2⟩ := mod_ok (w64 (a.tdiv 8)) (n := 3) (by decide) (by decide)
  have e3 : w64 (1 + s) = 1 + s := by rw [w64_id] <;> omega
  have j : ∀ b, ∃ r, made_Gap_j3 a b = some r ∧ 0 ≤ r ∧ r ≤ 2 * w + 1 := by
    intro b
    unfold made_Gap_j3
    cases b with
    | false => exact ⟨0, rfl, by omega, by omega⟩
    | true =>
      rw [hs]
      simp only [cond_true, Option.bind_some, e3]
      exact ⟨_, rfl, by omega, by omega⟩
  rw [hq, e1, e2, hr]
  simp only [Option.bind_some]
  cases q == 0 with
  | true => exact ⟨_, rfl, by omega, by omega⟩
  | false =>
    cases q == 1 with
    | true => simp only [cond_false, cond_true]; exact j _
    | false => simp only [cond_false]; exact j _

theorem value_ok (a : Int) : ∃ r, made_Value a = some r ∧ ref09_Value r = true := by
  unfold made_Value
  obtain ⟨q, hq, _, _⟩ := mod_ok a (n := 8) (by decide) (by decide)
  obtain ⟨r, hr, r1, r2⟩ := mod_ok (w64 (a.tdiv 8)) (n := 8193) (by decide) (by decide)
  obtain ⟨s, hs, s1, s2⟩ := mod_ok (w64 (a.tdiv 8)) (n := 2) (by decide) (by decide)
  obtain ⟨t, ht, t1, t2⟩ := mod_ok (w64 (a.tdiv 8)) (n := 13) (by decide) (by decide)
  rw [hq, hr, hs, ht]
  simp only [Option.bind_some]
  have v : ∀ x : Int, -4096 ≤ x → x ≤ 4096 → ref09_Value x = true := fun x h1 h2 => by
    unfold ref09_Value
    rw [Bool.and_eq_true, decide_eq_true_eq, decide_eq_true_eq]; omega
  cases q == 0 with
  | true =>
    have e : w64 (r - 4096) = r - 4096 := by rw [w64_id] <;> omega
    refine ⟨_, rfl, ?_⟩
    rw [e]; exact v _ (by omega) (by omega)
  | false =>
    cases q == 1 with
    | true =>
      have e1 : w64 (2 * s) = 2 * s := by rw [w64_id] <;> omega
      have e2 : w64 (2 * s - 1) = 2 * s - 1 := by rw [w64_id] <;> omega
      have e3 : w64 (4096 * (2 * s - 1)) = 4096 * (2 * s - 1) := by rw [w64_id] <;> omega
      refine ⟨_, rfl, ?_⟩
      rw [e1, e2, e3]; exact v _ (by omega) (by omega)
    | false =>
      have e : w64 (t - 6) = t - 6 := by rw [w64_id] <;> omega
      refine ⟨_, rfl, ?_⟩
      rw [e]; exact v _ (by omega) (by omega)

/-- The items of a stream: the ticks ascend, the steps are small, the values are values. -/
def Stream (w : Int) (l : List api_Item) : Prop := (∀ p ∈ l, 0 ≤ p.T ∧ ref09_Value p.V = true) ∧ (∀ (i j : Nat) (p q : api_Item), i ≤ j → l[i]? = some p → l[j]? = some q → p.T ≤ q.T) ∧ ∀ (i : Nat) (p : api_Item), l[i]? = some p → p.T ≤ (i + 1) * (2 * w + 1)

theorem items_ok (raw : List api_Item) {w most : Int} (hl : raw.length ≤ maxLen) (h1 : 1 ≤ w) (h2 : w ≤ 1000) (h3 : 0 ≤ most) (h4 : most ≤ 1000) :
    ∃ l, made_Items raw w most = some l ∧ Stream w l ∧ (l.length : Int) ≤ most := by
  unfold made_Items made_Items_l2
  obtain ⟨r, hr, hQ⟩ := loop_ind (f := fun s : List api_Item × Int × Int => made_Items_l2s raw w most s.1 s.2.1 s.2.2)
    (fun s => ∃ i : Nat, s.2.2 = (i : Int) ∧ s.1.length = i ∧ (i : Int) ≤ most ∧ i ≤ raw.length ∧ Stream w s.1 ∧ 0 ≤ s.2.1 ∧ s.2.1 ≤ i * (2 * w + 1) ∧ ∀ p ∈ s.1, p.T ≤ s.2.1)
    (fun s => raw.length - s.1.length) (fun l => Stream w l ∧ (l.length : Int) ≤ most) ([], 0, 0)
    ⟨0, rfl, rfl, h3, Nat.zero_le _, ⟨by simp, fun i j p q _ hp => by simp at hp, fun i p hp => by simp at hp⟩, Int.le_refl _, by simp, by simp⟩ (by
      rintro ⟨l, t, k⟩ ⟨i, rfl, hli, hi1, hi2, hS, ht0, ht1, hle⟩
      simp only at hli ht0 ht1 hle hS ⊢
      unfold made_Items_l2s
      by_cases hc : (decide ((i : Int) < (raw.length : Int)) && decide ((i : Int) < most)) = true
      · left
        rw [hc, cond_true]
        simp only [Bool.and_eq_true, decide_eq_true_eq] at hc
        have hlt : i < raw.length := by omega
        obtain ⟨g, hg, g1, g2⟩ := gap_ok raw[i].T h1 h2
        obtain ⟨v, hv, v1⟩ := value_ok raw[i].V
        have hb : (i : Int) * (2 * w + 1) ≤ 1000 * (2 * w + 1) := Int.mul_le_mul_of_nonneg_right (by omega) (by omega)
        have e : w64 (t + g) = t + g := by rw [w64_id] <;> omega
        have hk : decide ((l.length + [(api_Item.mk (t + g) v)].length) * 16 ≤ 140737488355328) = true := by
          rw [decide_eq_true_eq, List.length_singleton]; omega
        have hmul : ((i + 1 : Nat) : Int) * (2 * w + 1) = (i : Int) * (2 * w + 1) + (2 * w + 1) := by
          rw [Int.natCast_succ, Int.add_mul, Int.one_mul]
        refine ⟨(l ++ [⟨t + g, v⟩], t + g, (i : Int) + 1), ?_, ⟨i + 1, by simp, by simp [hli], by omega, by omega, ⟨?_, ?_, ?_⟩, by show 0 ≤ t + g; omega, ?_, ?_⟩, ?_⟩
        · simp only [idx_nat, get_some hlt, Option.bind_some, hg, hv, e, succ_nat hlt hl]
          rw [hk, ck_true]
        · intro p hp
          rcases List.mem_append.1 hp with hp | hp
          · exact hS.1 p hp
          · have : p = ⟨t + g, v⟩ := by simpa using hp
            subst this
            exact ⟨by show 0 ≤ t + g; omega, v1⟩
        · intro a b p q hab hp hq
          by_cases hbl : b < l.length
          · rw [List.getElem?_append_left hbl] at hq
            rw [List.getElem?_append_left (by omega)] at hp
            exact hS.2.1 a b p q hab hp hq
          · have hbe : b = l.length := by
              have := (List.getElem?_eq_some_iff.1 hq).1
              simp at this; omega
            subst hbe
            have hq' : q = ⟨t + g, v⟩ := by simpa using hq.symm
            subst hq'
            by_cases hal : a < l.length
            · rw [List.getElem?_append_left hal] at hp
              have := hle p (List.mem_of_getElem? hp)
              show p.T ≤ t + g
              omega
            · have : a = l.length := by omega
              subst this
              have hp' : p = ⟨t + g, v⟩ := by simpa using hp.symm
              subst hp'
              exact Int.le_refl _
        · intro a p hp
          by_cases hal : a < l.length
          · rw [List.getElem?_append_left hal] at hp
            exact hS.2.2 a p hp
          · have : a = l.length := by
              have := (List.getElem?_eq_some_iff.1 hp).1
              simp at this; omega
            subst this
            have hp' : p = ⟨t + g, v⟩ := by simpa using hp.symm
            subst hp'
            rw [hli]
            show t + g ≤ ((i : Int) + 1) * (2 * w + 1)
            rw [Int.add_mul, Int.one_mul]; omega
        · show t + g ≤ ((i + 1 : Nat) : Int) * (2 * w + 1)
          rw [hmul]; omega
        · intro p hp
          rcases List.mem_append.1 hp with hp | hp
          · have := hle p hp
            show p.T ≤ t + g
            omega
          · have : p = ⟨t + g, v⟩ := by simpa using hp
            subst this
            exact Int.le_refl _
        · simp; omega
      · right
        rw [Bool.not_eq_true] at hc
        rw [hc]
        exact ⟨l, rfl, hS, by omega⟩)
  exact ⟨r, hr, hQ⟩

theorem madeLive_ok (l : List api_Item) (n w : Int) (hl : l.length ≤ 1000000) : made_Live l n w = some (l.filter fun p => decide (p.T > w64 (n - w)) && decide (p.T ≤ n)) := by
  have hm : l.length ≤ maxLen := by rw [maxLen_eq]; omega
  unfold made_Live made_Live_l2
  obtain ⟨h, _⟩ := loop_foldI (R := List api_Item) (f := fun s : List api_Item × Int => made_Live_l2s l n w s.1 s.2) (fun i b => (b, (i : Int))) l.length (fun i b => b.length ≤ i)
    (keepS (fun p => decide (p.T > w64 (n - w)) && decide (p.T ≤ n)) l) (fun b => some b) (fun i b hi hb => by
        have hs := succ_nat hi hm
        unfold made_Live_l2s keepS
        simp only [Int.ofNat_lt, hi, decide_true, cond_true, idx_nat, get_some hi, Option.bind_some, hs]
        have hk : decide ((b.length + [l[i]].length) * 16 ≤ 140737488355328) = true := by rw [decide_eq_true_eq, List.length_singleton]; omega
        rw [hk]
        by_cases hc : (decide (l[i].T > w64 (n - w)) && decide (l[i].T ≤ n)) = true
        · rw [if_pos hc, hc]
          exact ⟨rfl, by simp; omega⟩
        · rw [if_neg hc]
          rw [Bool.not_eq_true] at hc
          rw [hc]
          exact ⟨rfl, by omega⟩) (fun b _ => by
        unfold made_Live_l2s
        simp) [] (by simp)
  have hf := foldl_filter (fun p : api_Item => decide (p.T > w64 (n - w)) && decide (p.T ≤ n)) l l.length [] (Nat.le_refl _)
  rw [Nat.sub_self, ← List.range_eq_range'] at hf
  simp only [List.drop_zero, List.nil_append] at hf
  refine h.trans ?_
  show some _ = some _
  congr 1

/-! ### The law RecentRuns -/

theorem validS_mono {l : List api_Item} {n t : Int} (h : validS l n = true) (hnt : n ≤ t) (ht : ref06_Tick t = true) : validS l t = true := by
  unfold validS at h ⊢
  simp only [Bool.and_eq_true, Bool.not_eq_true'] at h ⊢
  refine ⟨ht, ?_⟩
  cases hc : (List.range l.length).any (badV l t) with
  | false => rfl
  | true =>
    exfalso
    obtain ⟨i, hi, hb⟩ := any_iff.1 hc
    have : (List.range l.length).any (badV l n) = true := any_iff.2 ⟨i, hi, by
      unfold badV at hb ⊢
      rw [get_some hi] at hb ⊢
      simp only [Bool.or_eq_true, decide_eq_true_eq] at hb ⊢
      rcases hb with (hb | hb) | hb
      · exact .inl (.inl hb)
      · exact .inl (.inr (by omega))
      · exact .inr hb⟩
    rw [h.2] at this
    cases this

theorem validS_iff (l : List api_Item) (n : Int) : validS l n = true ↔ ref06_Tick n = true ∧ (∀ p ∈ l, 0 ≤ p.T ∧ p.T ≤ n) ∧ l.Pairwise (fun a b => a.T ≤ b.T) := by
  unfold validS
  rw [Bool.and_eq_true, Bool.not_eq_true']
  constructor
  · rintro ⟨h1, h2⟩
    have hno : ∀ i, i < l.length → badV l n i = false := fun i hi => by
      cases h : badV l n i with
      | false => rfl
      | true => rw [any_iff.2 ⟨i, hi, h⟩] at h2; cases h2
    refine ⟨h1, fun p hp => ?_, ?_⟩
    · obtain ⟨i, hi, rfl⟩ := List.mem_iff_getElem.1 hp
      have := hno i hi
      simp only [badV, get_some hi, Bool.or_eq_false_iff, decide_eq_false_iff_not] at this
      omega
    · rw [List.pairwise_iff_getElem]
      intro i j hi hj hij
      have adj : ∀ k (hk : k + 1 < l.length), l[k].T ≤ l[k + 1].T := fun k hk => by
        have := hno (k + 1) hk
        simp only [badV, get_some hk, Nat.add_sub_cancel, get_some (show k < l.length by omega), Nat.succ_pos, decide_true, Bool.true_and, Bool.or_eq_false_iff, decide_eq_false_iff_not] at this
        omega
      have key : ∀ d (hd : i + d < l.length), l[i].T ≤ l[i + d].T := by
        intro d
        induction d with
        | zero => intro _; exact Int.le_refl _
        | succ d ih =>
          intro hd
          exact Int.le_trans (ih (by omega)) (adj (i + d) hd)
      have := key (j - i) (by omega)
      have e : i + (j - i) = j := by omega
      simpa [e] using this
  · rintro ⟨h1, h2, h3⟩
    refine ⟨h1, ?_⟩
    cases hc : (List.range l.length).any (badV l n) with
    | false => rfl
    | true =>
      exfalso
      obtain ⟨i, hi, hb⟩ := any_iff.1 hc
      have := h2 l[i] (List.getElem_mem hi)
      simp only [badV, get_some hi, Bool.or_eq_true, Bool.and_eq_true, decide_eq_true_eq] at hb
      rcases hb with (hb | hb) | ⟨hb, hb2⟩
      · omega
      · omega
      · rw [get_some (show i - 1 < l.length by omega)] at hb2
        simp only [decide_eq_true_eq] at hb2
        have := List.pairwise_iff_getElem.1 h3 (i - 1) i (by omega) hi (by omega)
        omega

theorem okV_iff (x : api_Recent) : okV x = true ↔ (1 ≤ x.W ∧ x.W ≤ 1048576) ∧ (1 ≤ x.Cap ∧ x.Cap ≤ 65536) ∧ ref06_Tick x.Now = true ∧ (x.Items.length : Int) ≤ x.Cap ∧ (∀ p ∈ x.Items, 0 ≤ p.T ∧ p.T ≤ x.Now ∧ p.T > x.Now - x.W ∧ ref09_Value p.V = true) ∧ x.Items.Pairwise (fun a b => a.T ≤ b.T) := by
  unfold okV
  rw [Bool.and_eq_true, Bool.and_eq_true, Bool.and_eq_true, validS_iff, List.all_eq_true, decide_eq_true_eq]
  have hm : ref09_May x.W x.Cap x.Now = true ↔ (1 ≤ x.W ∧ x.W ≤ 1048576) ∧ (1 ≤ x.Cap ∧ x.Cap ≤ 65536) ∧ ref06_Tick x.Now = true := by
    unfold ref09_May ref06_Window
    simp only [Bool.and_eq_true, decide_eq_true_eq]
    constructor
    · rintro ⟨⟨⟨⟨a, b⟩, c⟩, d⟩, e⟩; exact ⟨⟨a, b⟩, ⟨c, d⟩, e⟩
    · rintro ⟨⟨a, b⟩, ⟨c, d⟩, e⟩; exact ⟨⟨⟨⟨a, b⟩, c⟩, d⟩, e⟩
  rw [hm]
  constructor
  · rintro ⟨⟨⟨h1, h2, h3⟩, h4⟩, ⟨_, h6, h7⟩, h8⟩
    refine ⟨h1, h2, h3, h4, fun p hp => ?_, h7⟩
    have a := h6 p hp
    have b := h8 p hp
    unfold ref06_Live at b
    unfold ref06_Tick at h3
    simp only [Bool.and_eq_true, decide_eq_true_eq] at b h3
    have e : w64 (x.Now - x.W) = x.Now - x.W := by rw [w64_id] <;> omega
    rw [e] at b
    exact ⟨a.1, a.2, b.1.1.2, b.2⟩
  · rintro ⟨h1, h2, h3, h4, h5, h6⟩
    refine ⟨⟨⟨h1, h2, h3⟩, h4⟩, ⟨h3, fun p hp => ⟨(h5 p hp).1, (h5 p hp).2.1⟩, h6⟩, fun p hp => ?_⟩
    obtain ⟨a, b, c, d⟩ := h5 p hp
    have h3' := h3
    unfold ref06_Tick at h3'
    simp only [Bool.and_eq_true, decide_eq_true_eq] at h3'
    have e : w64 (x.Now - x.W) = x.Now - x.W := by rw [w64_id] <;> omega
    unfold ref06_Live ref06_Window
    rw [e]
    have ht : ref06_Tick p.T = true := by
      unfold ref06_Tick
      simp only [Bool.and_eq_true, decide_eq_true_eq]; omega
    simp only [Bool.and_eq_true, decide_eq_true_eq, h3, ht, d, true_and, and_true]
    omega

theorem tick_iff (t : Int) : ref06_Tick t = true ↔ 0 ≤ t ∧ t ≤ 16777216 := by
  unfold ref06_Tick
  simp only [Bool.and_eq_true, decide_eq_true_eq, ge_iff_le]

theorem advance_ok {x : api_Recent} {t : Int} (h : okV x = true) (h1 : x.Now ≤ t) (h2 : t ≤ 16777216) :
    recent_Advance x t = some (⟨x.W, x.Cap, t, liveS x.Items t x.W⟩, 0) ∧ okV ⟨x.W, x.Cap, t, liveS x.Items t x.W⟩ = true ∧
    liveS x.Items t x.W = x.Items.filter fun p => decide (p.T > w64 (t - x.W)) && decide (p.T ≤ t) := by
  obtain ⟨g1, g2, g3, g4, g5, g6⟩ := (okV_iff x).1 h
  have hn := (tick_iff x.Now).1 g3
  have ht : ref06_Tick t = true := (tick_iff t).2 (by omega)
  have hl : x.Items.length ≤ maxLen := by rw [maxLen_eq]; omega
  have hv : validS x.Items t = true := (validS_iff _ _).2 ⟨ht, fun p hp => by have := g5 p hp; omega, g6⟩
  refine ⟨?_, ?_, ?_⟩
  · unfold recent_Advance
    rw [validate9_eq, validate9_spec x hl, h]
    have hk : clock_tick x.Now = true := g3
    have hc : (decide (t < x.Now) || decide (t > 16777216)) = false := by
      simp only [Bool.or_eq_false_iff, decide_eq_false_iff_not]; omega
    unfold clock_Advance
    simp only [Option.bind_some, if_true, bne_self_eq_false, cond_false, hk, Bool.not_true, hc, exact_live x.Items t x.W (by omega), hv]
  · refine (okV_iff _).2 ⟨g1, g2, ht, ?_, fun p hp => ?_, ?_⟩
    · show ((liveS x.Items t x.W).length : Int) ≤ x.Cap
      have : (liveS x.Items t x.W).length ≤ x.Items.length := List.length_filter_le _ _
      omega
    · have hp' := List.mem_filter.1 hp
      have a := g5 p hp'.1
      have b := hp'.2
      unfold ref06_Live at b
      simp only [Bool.and_eq_true, decide_eq_true_eq] at b
      have e : w64 (t - x.W) = t - x.W := by rw [w64_id] <;> omega
      rw [e] at b
      exact ⟨a.1, b.2, b.1.2, a.2.2.2⟩
    · exact g6.filter _
  · unfold liveS
    refine List.filter_congr fun p hp => ?_
    have a := g5 p hp
    unfold ref06_Live ref06_Window
    have hpt : ref06_Tick p.T = true := (tick_iff _).2 (by omega)
    rw [ht, hpt]
    have w1 : decide (x.W ≥ 1) = true := by rw [decide_eq_true_eq]; omega
    have w2 : decide (x.W ≤ 1048576) = true := by rw [decide_eq_true_eq]; omega
    simp [w1, w2]

theorem add_ok {x : api_Recent} {v : Int} (h : okV x = true) (hv : ref09_Value v = true) :
    ((x.Items.length : Int) = x.Cap ∧ ∃ z, recent_Add x v = some (z, 5)) ∨
    ((x.Items.length : Int) < x.Cap ∧ recent_Add x v = some (⟨x.W, x.Cap, x.Now, x.Items ++ [⟨x.Now, v⟩]⟩, 0) ∧ okV ⟨x.W, x.Cap, x.Now, x.Items ++ [⟨x.Now, v⟩]⟩ = true) := by
  obtain ⟨g1, g2, g3, g4, g5, g6⟩ := (okV_iff x).1 h
  have hn := (tick_iff x.Now).1 g3
  have hl : x.Items.length ≤ maxLen := by rw [maxLen_eq]; omega
  have e : recent_Add x v = cond ((x.Items.length : Int) == x.Cap) (some ((api_Recent.mk (0:Int) (0:Int) (0:Int) ([] : List api_Item)), (5:Int))) (some (⟨x.W, x.Cap, x.Now, x.Items ++ [⟨x.Now, v⟩]⟩, 0)) := by
    unfold recent_Add
    rw [validate9_eq, validate9_spec x hl, h, value_eq, hv]
    have k1 : decide (0 ≤ (x.Items.length : Int) ∧ True ∧ (x.Items.length : Int) ≤ (x.Items.length : Int)) = true := by
      rw [decide_eq_true_eq]; exact ⟨by omega, trivial, Int.le_refl _⟩
    have k2 : decide ([(api_Item.mk x.Now v)] ≠ [] ∧ ((x.Items.take ((x.Items.length : Int)).toNat).length + [(api_Item.mk x.Now v)].length) * 16 ≤ 140737488355328) = true := by
      rw [decide_eq_true_eq]
      refine ⟨by simp, ?_⟩
      rw [Int.toNat_natCast, List.take_length, List.length_singleton]; omega
    simp only [Option.bind_some, if_true, bne_self_eq_false, cond_false, Bool.not_true]
    rw [k1, k2]
    simp only [ck_true, Int.toNat_natCast, List.take_length]
  by_cases hc : (x.Items.length : Int) = x.Cap
  · left
    refine ⟨hc, ⟨0, 0, 0, []⟩, ?_⟩
    rw [e, beq_iff_eq.2 hc]
    rfl
  · right
    have hb : ((x.Items.length : Int) == x.Cap) = false := by rw [beq_eq_false_iff_ne]; exact hc
    refine ⟨by omega, by rw [e, hb]; rfl, (okV_iff _).2 ⟨g1, g2, g3, ?_, fun p hp => ?_, ?_⟩⟩
    · show ((x.Items ++ [_]).length : Int) ≤ x.Cap
      rw [List.length_append, List.length_singleton]; omega
    · rcases List.mem_append.1 hp with hp | hp
      · exact g5 p hp
      · have : p = ⟨x.Now, v⟩ := by simpa using hp
        subst this
        refine ⟨hn.1, Int.le_refl _, ?_, hv⟩
        show x.Now > x.Now - x.W
        omega
    · show (x.Items ++ [_]).Pairwise _
      rw [List.pairwise_append]
      refine ⟨g6, by simp, fun a ha b hb => ?_⟩
      have : b = ⟨x.Now, v⟩ := by simpa using hb
      subst this
      exact (g5 a ha).2.1

theorem law09_RecentRuns_true (p0 : List api_Item) (p1 p2 : Int) (w0 : wfL wf_api_Item p0) (_ : wfI .i64 p1) (_ : wfI .i64 p2) : law09_RecentRuns p0 p1 p2 = some true := by
  obtain ⟨a, ha, a1, a2⟩ := mod_ok p1 (n := 20) (by decide) (by decide)
  obtain ⟨b, hb, b1, b2⟩ := mod_ok p2 (n := 30) (by decide) (by decide)
  have ew : w64 (1 + a) = 1 + a := by rw [w64_id] <;> omega
  have ec : w64 (1 + b) = 1 + b := by rw [w64_id] <;> omega
  have hnew : recent_New (1 + a) (1 + b) 0 = (⟨1 + a, 1 + b, 0, []⟩, 0) := by
    have : recent_good (1 + a) (1 + b) 0 = true := by
      unfold recent_good
      simp only [Bool.and_eq_true, decide_eq_true_eq]; omega
    unfold recent_New
    rw [this]; rfl
  obtain ⟨l, hit, hS, hlen⟩ := items_ok p0 (w := 1 + a) (most := 60) w0.1 (by omega) (by omega) (by decide) (by decide)
  unfold law09_RecentRuns made_Int
  simp only [ha, hb, Option.bind_some, ew, ec, hnew, hit, bne_self_eq_false, cond_false]
  unfold law09_RecentRuns_l3
  have htick : ∀ (i : Nat) (p : api_Item), l[i]? = some p → 0 ≤ p.T ∧ p.T ≤ 16777216 := fun i p hp => by
    have h1 := hS.2.2 i p hp
    have h2 := (hS.1 p (List.mem_of_getElem? hp)).1
    have h3 := (List.getElem?_eq_some_iff.1 hp).1
    have h4 : ((i : Int) + 1) * (2 * (1 + a) + 1) ≤ 61 * 41 := by
      have : ((i : Int) + 1) * (2 * (1 + a) + 1) ≤ ((i : Int) + 1) * 41 := Int.mul_le_mul_of_nonneg_left (by omega) (by omega)
      omega
    omega
  obtain ⟨r, hr, rfl⟩ := loop_ind (f := fun s : List api_Item × Int × Int × Int × Int × List api_Item => law09_RecentRuns_l3s a b l s.1 s.2.1 s.2.2.1 s.2.2.2.1 s.2.2.2.2.1 s.2.2.2.2.2)
    (fun s => ∃ (i : Nat) (n : Int) (H : List api_Item), s = (H, (i : Int), 1 + a, 1 + b, n, H) ∧ i ≤ l.length ∧ okV ⟨1 + a, 1 + b, n, H⟩ = true ∧ ∀ j p, i ≤ j → l[j]? = some p → n ≤ p.T)
    (fun s => l.length - s.2.1.toNat) (fun r => r = true) ([], 0, 1 + a, 1 + b, 0, [])
    ⟨0, 0, [], rfl, Nat.zero_le _, (okV_iff _).2 ⟨⟨by show 1 ≤ 1 + a; omega, by show 1 + a ≤ 1048576; omega⟩, ⟨by show 1 ≤ 1 + b; omega, by show 1 + b ≤ 65536; omega⟩, rfl, by show (0 : Int) ≤ 1 + b; omega, by simp, by simp⟩, fun j p _ hp => (htick j p hp).1⟩ (by
      rintro _ ⟨i, n, H, rfl, hi, hok, hnow⟩
      simp only
      unfold law09_RecentRuns_l3s
      by_cases hlt : i < l.length
      · left
        have hp := get_some hlt
        have ht := htick i l[i] hp
        obtain ⟨g1, g2, g3⟩ := advance_ok hok (hnow i l[i] (Nat.le_refl _) hp) ht.2
        have hv := (hS.1 l[i] (List.getElem_mem hlt)).2
        have hHl : H.length ≤ 1000000 := by
          have := ((okV_iff _).1 hok).2.2.2.1
          simp only at this; omega
        have hml := madeLive_ok H l[i].T (1 + a) hHl
        simp only at g1 g2 g3
        rw [← g3] at hml
        generalize hL : liveS H l[i].T (1 + a) = L at g1 g2 hml
        have hnext : ∀ j p, i + 1 ≤ j → l[j]? = some p → l[i].T ≤ p.T := fun j p hj hpj => hS.2.1 i j l[i] p (by omega) hp hpj
        have hs : w64 ((i : Int) + 1) = (i : Int) + 1 := by rw [w64_id] <;> omega
        have hmax : ∀ (L : List api_Item), (L.length : Int) ≤ 1 + b → L.length ≤ maxLen := fun L h => by rw [maxLen_eq]; omega
        have hLc := ((okV_iff _).1 g2).2.2.2.1
        simp only at hLc
        simp only [Int.ofNat_lt, hlt, decide_true, cond_true, idx_nat, hp, Option.bind_some, g1, bne_self_eq_false, cond_false, ew, hml, ec]
        rcases add_ok g2 hv with ⟨c1, z, c2⟩ | ⟨c1, c2, c3⟩
        · simp only at c1
          have hb : ((L.length : Int) == 1 + b) = true := by rw [beq_iff_eq]; exact c1
          simp only [c2, Option.bind_some, hb]
          refine ⟨(L, (i : Int) + 1, 1 + a, 1 + b, l[i].T, L), ?_, ⟨i + 1, l[i].T, L, rfl, hlt, g2, hnext⟩, by show l.length - ((i : Int) + 1).toNat < l.length - (i : Int).toNat; omega⟩
          unfold law09_RecentRuns_j8
          simp only [items_refl L (hmax L hLc), hs]
          rfl
        · simp only at c1 c2 c3
          have hb : ((L.length : Int) == 1 + b) = false := by rw [beq_eq_false_iff_ne]; omega
          have k1 : decide ((([] : List api_Item).length + L.length) * 16 ≤ 140737488355328) = true := by
            rw [decide_eq_true_eq, List.length_nil]; omega
          have k2 : decide (((([] : List api_Item) ++ L).length + [l[i]].length) * 16 ≤ 140737488355328) = true := by
            rw [decide_eq_true_eq, List.nil_append, List.length_singleton]; omega
          simp only [c2, Option.bind_some, hb, k1, k2, ck_true]
          have hLc2 := ((okV_iff _).1 c3).2.2.2.1
          simp only at hLc2
          refine ⟨(L ++ [l[i]], (i : Int) + 1, 1 + a, 1 + b, l[i].T, L ++ [l[i]]), ?_, ⟨i + 1, l[i].T, L ++ [l[i]], rfl, hlt, c3, hnext⟩, by show l.length - ((i : Int) + 1).toNat < l.length - (i : Int).toNat; omega⟩
          unfold law09_RecentRuns_j8
          have e : L ++ [(⟨l[i].T, l[i].V⟩ : api_Item)] = L ++ [l[i]] := rfl
          simp only [List.nil_append, e, items_refl (L ++ [l[i]]) (hmax _ hLc2), hs]
          rfl
      · right
        have : ¬ ((i : Int) < (l.length : Int)) := by omega
        simp only [this, decide_false, cond_false, awake9]
        exact ⟨true, rfl, rfl⟩)
  exact hr

end Go.Win
