/- Pu: chapter 08: the statement ExactSpreads. -/
import Derived.Test.YtpclnmpmammlfaaPuSpread2
namespace Go.Win
open Go.Vc Go.Dec

theorem ref_spread_in {l : List api_Item} (h : smallI l) {i : Nat} (hi : i < l.length) {d : Int} (hd : 0 ≤ d ∧ d ≤ i * 879609302220800) :
    ref08_Spread_l6 l (i : Int) d 0 = some (.inl (d + dist l[i].V (l.take i), (i : Int) + 1)) := by
  have hm : l.length ≤ maxLen := by rw [maxLen_eq]; have := h.1; omega
  have hlen := h.1
  unfold ref08_Spread_l6
  obtain ⟨r, hr, hQ⟩ := loop_ind (f := fun s : Int × Int => ref08_Spread_l6s l (i : Int) s.1 s.2)
    (fun s => ∃ j : Nat, j ≤ i ∧ s = (d + dist l[i].V (l.take j), (j : Int)))
    (fun s => i - s.2.toNat) (fun r => r = .inl (d + dist l[i].V (l.take i), (i : Int) + 1)) (d, 0) ⟨0, Nat.zero_le _, by simp [dist]⟩ (by
      rintro _ ⟨j, hj, rfl⟩
      simp only
      have hv := h.2 l[i] (List.getElem_mem hi)
      have b1 := dist_nn l[i].V (l.take j)
      have b2 := dist_small hv (smallI_take h j).2
      rw [List.length_take] at b2
      unfold ref08_Spread_l6s
      by_cases hlt : j < i
      · left
        have hj2 : j < l.length := by omega
        have hu := h.2 l[j] (List.getElem_mem hj2)
        simp only [Int.ofNat_lt, hlt, decide_true, cond_true, idx_nat, get_some hi, get_some hj2, Option.bind_some]
        have e1 : w64 (l[i].V - l[j].V) = l[i].V - l[j].V := by rw [w64_id] <;> omega
        have s1 := sq_nn (l[i].V - l[j].V)
        have s2 := sq_le (x := l[i].V - l[j].V) (m := 2097152) (by omega) (by omega)
        rw [e1]
        have e2 : w64 ((l[i].V - l[j].V) * (l[i].V - l[j].V)) = (l[i].V - l[j].V) * (l[i].V - l[j].V) := by rw [w64_id] <;> omega
        rw [e2]
        have e3 : w64 (d + dist l[i].V (l.take j) + (l[i].V - l[j].V) * (l[i].V - l[j].V)) = d + dist l[i].V (l.take (j + 1)) := by
          rw [dist_step _ l hj2, w64_id] <;> omega
        have e4 : w64 ((j : Int) + 1) = ((j + 1 : Nat) : Int) := by rw [w64_id] <;> omega
        rw [e3, e4]
        exact ⟨_, rfl, ⟨j + 1, hlt, rfl⟩, by show i - (((j + 1 : Nat) : Int)).toNat < i - (j : Int).toNat; omega⟩
      · right
        have hji : j = i := by omega
        subst hji
        simp only [Int.lt_irrefl, decide_false, cond_false]
        refine ⟨_, rfl, ?_⟩
        rw [w64_id (by omega) (by omega)])
  rw [hr, hQ]

theorem ratio01 : ratioOf 0 1 = ⟨0, 1⟩ := rfl

theorem ref_spread {l : List api_Item} (h : smallI l) : ref08_Spread l = some (if l = [] then ⟨0, 1⟩ else ratioOf (pD l).toNat l.length) := by
  have hlen := h.1
  unfold ref08_Spread ref08_Spread_l2
  obtain ⟨r, hr, hQ⟩ := loop_ind (f := fun s : Int × Int => ref08_Spread_l2s l s.1 s.2)
    (fun s => ∃ i : Nat, i ≤ l.length ∧ s = (pD (l.take i), (i : Int)))
    (fun s => l.length - s.2.toNat) (fun r => r = if l = [] then ⟨0, 1⟩ else ratioOf (pD l).toNat l.length) (0, 0) ⟨0, Nat.zero_le _, by simp [pD, sqS, sumV]⟩ (by
      rintro _ ⟨i, hi, rfl⟩
      simp only
      unfold ref08_Spread_l2s
      by_cases hlt : i < l.length
      · left
        simp only [Int.ofNat_lt, hlt, decide_true, cond_true]
        rw [ref_spread_in h hlt (pD_bound l h i hi), ← pD_step l hlt]
        exact ⟨_, rfl, ⟨i + 1, hlt, rfl⟩, by show l.length - ((i : Int) + 1).toNat < l.length - (i : Int).toNat; omega⟩
      · right
        have hn : ¬ ((i : Int) < (l.length : Int)) := by omega
        have hi2 : i = l.length := by omega
        subst hi2
        rw [List.take_length]
        simp only [hn, decide_false, cond_false]
        obtain ⟨hp0, hp1⟩ := pD_nn h
        obtain ⟨d, hd⟩ := Int.eq_ofNat_of_zero_le hp0
        rw [hd] at hp1 ⊢
        by_cases h0 : l = []
        · subst h0
          have hd0 : d = 0 := by simp [pD, sqS, sumV] at hd; omega
          subst hd0
          have e : imax ((([] : List api_Item).length : Nat) : Int) 1 = ((1 : Nat) : Int) := by decide
          rw [e, ref_make (by omega) (by omega) (by omega)]
          exact ⟨_, rfl, rfl⟩
        · have hpos : 0 < l.length := List.length_pos_iff.2 h0
          have e : imax (l.length : Int) 1 = (l.length : Int) := by
            show (if (1 : Int) > (l.length : Int) then (1 : Int) else (l.length : Int)) = _
            rw [if_neg (by omega)]
          rw [e, ref_make (by omega) (by omega) hpos, if_neg h0, Int.toNat_natCast]
          exact ⟨_, rfl, rfl⟩)
  rw [hr, hQ]

theorem few_spec (l : List api_Item) : ref08_Few l = some true ∧ smallI l ∨ ref08_Few l = some false := by
  unfold ref08_Few
  by_cases hc : (l.length : Int) > 200
  · right
    rw [decide_eq_true hc, cond_true]
  · rw [decide_eq_false hc, cond_false]
    have hm : l.length ≤ maxLen := by rw [maxLen_eq]; omega
    unfold ref08_Few_l3
    have := loop_all (f := fun s : Int => ref08_Few_l3s l s) (n := l.length) (bad := fun i => decide ((l.getD i default).V < -1048576) || decide ((l.getD i default).V > 1048576)) (E := false) (A := some true)
      (fun i hi => by
        unfold ref08_Few_l3s
        have g : l.getD i default = l[i] := by simp [List.getD, get_some hi]
        simp only [Int.ofNat_lt, hi, decide_true, cond_true, idx_nat, get_some hi, Option.bind_some, succ_nat hi hm, g])
      (by
        unfold ref08_Few_l3s
        simp)
    rw [this]
    cases hb : (List.range l.length).any (fun i => decide ((l.getD i default).V < -1048576) || decide ((l.getD i default).V > 1048576)) with
    | true => right; rfl
    | false =>
      left
      refine ⟨rfl, by omega, fun p hp => ?_⟩
      obtain ⟨i, hi, rfl⟩ := List.mem_iff_getElem.1 hp
      have hb2 := List.any_eq_false.1 hb i (List.mem_range.2 hi)
      have g : l.getD i default = l[i] := by simp [List.getD, get_some hi]
      rw [g, Bool.not_eq_true, Bool.or_eq_false_iff, decide_eq_false_iff_not, decide_eq_false_iff_not] at hb2
      omega

theorem law08_ExactSpreads_true (p0 : List api_Item) (_ : wfL wf_api_Item p0) : law08_ExactSpreads p0 = some true := by
  unfold law08_ExactSpreads
  rw [law08_awake_true]
  rcases few_spec p0 with ⟨h1, h2⟩ | h1
  · rw [h1, exact_spread h2, ref_spread h2]
    simp
  · rw [h1]
    rfl

end Go.Win
