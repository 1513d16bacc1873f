/- Pu: chapter 21: the exact summary, as the reference has it. -/
import Derived.Test.YtpclnmpmammlfaaPuRank
namespace Go.Win
open Go.Vc Go.Dec

theorem sortZ_sorted (l : List Int) : (sortZ l).Pairwise (· ≤ ·) := by
  have := List.pairwise_mergeSort (le := fun x y : Int => decide (x ≤ y)) (fun a b c h1 h2 => by simp at *; omega) (fun a b => by simp; omega) l
  unfold sortZ
  refine this.imp ?_
  intro a b h
  simpa using h

theorem sortZ_perm (l : List Int) : (sortZ l).Perm l := List.mergeSort_perm _ _

theorem sorted_unique {a b : List Int} (ha : a.Pairwise (· ≤ ·)) (hb : b.Pairwise (· ≤ ·)) (h : a.Perm b) : a = b :=
  h.eq_of_pairwise (le := (· ≤ ·)) (fun _ _ _ _ h1 h2 => Int.le_antisymm h1 h2) ha hb

/-- An entry without bounds. -/
def zE (v : Int) : api_Entry := ⟨v, 0, 0⟩

/-- v stands behind the first k. -/
def insAt (S : List Int) (v : Int) (k : Nat) : List Int := S.take k ++ v :: S.drop k

theorem insAt_length (S : List Int) (v : Int) {k : Nat} (hk : k ≤ S.length) : (insAt S v k).length = S.length + 1 := by
  unfold insAt
  simp
  omega

theorem insAt_at (S : List Int) (v : Int) {k : Nat} (hk : k ≤ S.length) : (insAt S v k)[k]? = some v := by
  unfold insAt
  rw [List.getElem?_append_right (by rw [List.length_take]; omega), List.length_take, Nat.min_eq_left hk, Nat.sub_self]
  rfl

theorem insAt_split (S : List Int) (v : Int) {k : Nat} (hk : k < S.length) : insAt S v (k + 1) = S.take k ++ S[k] :: v :: S.drop (k + 1) ∧ insAt S v k = S.take k ++ v :: S[k] :: S.drop (k + 1) := by
  unfold insAt
  refine ⟨?_, ?_⟩
  · rw [List.take_succ_eq_append_getElem hk, List.append_assoc]; rfl
  · rw [List.drop_eq_getElem_cons hk]

theorem insAt_pred (S : List Int) (v : Int) {k : Nat} (hk : k < S.length) : (insAt S v (k + 1))[k]? = some S[k] := by
  rw [(insAt_split S v hk).1, List.getElem?_append_right (by rw [List.length_take]; omega), List.length_take, Nat.min_eq_left (by omega), Nat.sub_self]
  rfl

theorem insAt_swap (S : List Int) (v : Int) {k : Nat} (hk : k < S.length) : ((insAt S v (k + 1)).set (k + 1) S[k]).set k v = insAt S v k := by
  obtain ⟨h1, h2⟩ := insAt_split S v hk
  rw [h1, h2]
  have hl : (S.take k).length = k := by rw [List.length_take]; omega
  rw [List.set_append_right _ _ (by omega), List.set_append_right _ _ (by omega), hl]
  simp

theorem idx_map' {α β : Type} (f : α → β) (l : List α) (i : Nat) {x : α} (h : l[i]? = some x) : idx (l.map f) (i : Int) = some (f x) := by
  rw [idx_nat, List.getElem?_map, h]; rfl

/-- The place of v, from k on. -/
theorem ref_ins (S : List Int) (v : Int) (i : Int) (hl : S.length ≤ 100000) (hS : S.Pairwise (· ≤ ·)) :
    ∃ k, k ≤ S.length ∧ (0 < k → ∀ h2 : k - 1 < S.length, S[k - 1] ≤ v) ∧ (∀ x ∈ S.drop k, v < x) ∧ ref21_Of_l7 v i (S.length : Int) ((insAt S v S.length).map zE) = some (.inl (w64 (i + 1), (insAt S v k).map zE)) := by
  unfold ref21_Of_l7
  obtain ⟨r, hr, k, h1, h2, h3, hQ⟩ := loop_ind (f := fun s : Int × List api_Entry => ref21_Of_l7s v i s.1 s.2)
    (fun s => ∃ k : Nat, k ≤ S.length ∧ (∀ x ∈ S.drop k, v < x) ∧ s = ((k : Int), (insAt S v k).map zE))
    (fun s => s.1.toNat) (fun r => ∃ k, k ≤ S.length ∧ (0 < k → ∀ h2 : k - 1 < S.length, S[k - 1] ≤ v) ∧ (∀ x ∈ S.drop k, v < x) ∧ r = .inl (w64 (i + 1), (insAt S v k).map zE)) ((S.length : Int), (insAt S v S.length).map zE)
    ⟨S.length, Nat.le_refl _, by simp, rfl⟩ (by
      rintro _ ⟨k, hk, hgt, rfl⟩
      simp only
      unfold ref21_Of_l7s
      cases k with
      | zero =>
        right
        refine ⟨_, rfl, 0, Nat.zero_le _, fun h => absurd h (by omega), hgt, rfl⟩
      | succ k =>
        have hk' : k < S.length := by omega
        have e1 : w64 (((k + 1 : Nat) : Int) - 1) = (k : Int) := by rw [w64_id] <;> omega
        have g1 : idx ((insAt S v (k + 1)).map zE) (k : Int) = some (zE S[k]) := idx_map' zE _ k (insAt_pred S v hk')
        have g2 : idx ((insAt S v (k + 1)).map zE) ((k + 1 : Nat) : Int) = some (zE v) := idx_map' zE _ (k + 1) (insAt_at S v (by omega))
        rw [decide_eq_true (by omega : ((k + 1 : Nat) : Int) > 0)]
        simp only [e1, g1, g2, gd_true, Option.bind_some, Bool.true_and]
        by_cases hv : S[k] > v
        · left
          have c1 : decide ((zE S[k]).V > v) = true := by rw [decide_eq_true_eq]; exact hv
          rw [c1, cond_true]
          have hset : ((insAt S v (k + 1)).map zE).set (((k + 1 : Nat) : Int)).toNat (zE S[k]) = ((insAt S v (k + 1)).set (k + 1) S[k]).map zE := by
            rw [Int.toNat_natCast, List.map_set]
          rw [hset]
          have hlen := insAt_length S v (show k + 1 ≤ S.length by omega)
          have hk2 : k < ((insAt S v (k + 1)).set (k + 1) S[k]).length := by rw [List.length_set]; omega
          have g3 : idx (((insAt S v (k + 1)).set (k + 1) S[k]).map zE) (k : Int) = some (zE ((insAt S v (k + 1)).set (k + 1) S[k])[k]) := idx_map' zE _ k (List.getElem?_eq_getElem hk2)
          rw [g3]
          simp only [Option.bind_some]
          refine ⟨_, rfl, ⟨k, by omega, ?_, ?_⟩, by show (k : Int).toNat < (((k + 1 : Nat) : Int)).toNat; omega⟩
          · intro x hx
            rw [List.drop_eq_getElem_cons hk'] at hx
            rcases List.mem_cons.1 hx with rfl | hx
            · exact hv
            · exact hgt x hx
          · rw [Int.toNat_natCast, ← List.map_set, insAt_swap S v hk']
        · right
          have c1 : decide ((zE S[k]).V > v) = false := by rw [decide_eq_false_iff_not]; exact hv
          rw [c1, cond_false]
          exact ⟨_, rfl, k + 1, hk, fun _ _ => by simpa using (Int.not_lt.1 hv), hgt, rfl⟩)
  exact ⟨k, h1, h2, h3, by rw [hr, hQ]⟩

theorem insAt_sorted (S : List Int) (v : Int) {k : Nat} (hk : k ≤ S.length) (hS : S.Pairwise (· ≤ ·)) (h1 : 0 < k → ∀ h2 : k - 1 < S.length, S[k - 1] ≤ v) (h2 : ∀ x ∈ S.drop k, v < x) :
    (insAt S v k).Pairwise (· ≤ ·) ∧ (insAt S v k).Perm (v :: S) := by
  have hsplit : (S.take k ++ S.drop k).Pairwise (· ≤ ·) := by rw [List.take_append_drop]; exact hS
  obtain ⟨p1, p2, p3⟩ := List.pairwise_append.1 hsplit
  refine ⟨?_, ?_⟩
  · unfold insAt
    refine List.pairwise_append.2 ⟨p1, List.pairwise_cons.2 ⟨fun x hx => Int.le_of_lt (h2 x hx), p2⟩, fun a ha b hb => ?_⟩
    rcases List.mem_cons.1 hb with rfl | hb
    · obtain ⟨j, hj, rfl⟩ := List.mem_iff_getElem.1 ha
      rw [List.length_take] at hj
      have hk0 : 0 < k := by omega
      refine Int.le_trans ?_ (h1 hk0 (by omega))
      rw [List.getElem_take]
      rcases Nat.lt_or_ge j (k - 1) with hlt | hge
      · exact List.pairwise_iff_getElem.1 hS j (k - 1) (by omega) (by omega) hlt
      · have : j = k - 1 := by omega
        subst this
        exact Int.le_refl _
    · exact p3 a ha b hb
  · unfold insAt
    refine List.perm_middle.trans ?_
    rw [List.take_append_drop]

theorem ref_number (l : List Int) (p0 : List Int) (hlen : p0.length = l.length) (hl : l.length ≤ 100000) :
    ref21_Of_l11 p0 (l.map zE) 0 (l.map zE) = some (⟨(l.length : Int), exE l⟩, 0) := by
  have hm : l.length ≤ maxLen := by rw [maxLen_eq]; omega
  unfold ref21_Of_l11
  obtain ⟨r, hr, hQ⟩ := loop_ind (f := fun s : Int × List api_Entry => ref21_Of_l11s p0 (l.map zE) s.1 s.2)
    (fun s => ∃ i : Nat, i ≤ l.length ∧ s = ((i : Int), exE (l.take i) ++ (l.drop i).map zE))
    (fun s => l.length - s.1.toNat) (fun r => r = (⟨(l.length : Int), exE l⟩, 0)) (0, l.map zE) ⟨0, Nat.zero_le _, rfl⟩ (by
      rintro _ ⟨i, hi, rfl⟩
      simp only
      unfold ref21_Of_l11s
      rw [List.length_map]
      by_cases hlt : i < l.length
      · left
        have hel : (exE (l.take i)).length = i := by rw [exE_length, List.length_take]; omega
        have hd : (l.drop i).map zE = zE l[i] :: (l.drop (i + 1)).map zE := by rw [List.drop_eq_getElem_cons hlt]; rfl
        have hset : ∀ (a b : api_Entry) (Q : List api_Entry), (exE (l.take i) ++ a :: Q).set (i : Int).toNat b = exE (l.take i) ++ b :: Q := fun a b Q => by
          rw [Int.toNat_natCast, List.set_append_right _ _ (by omega), hel, Nat.sub_self]
          rfl
        have hget : ∀ (a : api_Entry) (Q : List api_Entry), idx (exE (l.take i) ++ a :: Q) (i : Int) = some a := fun a Q => by
          rw [idx_nat, List.getElem?_append_right (by omega), hel, Nat.sub_self]
          rfl
        rw [decide_eq_true (by omega : (i : Int) < (l.length : Int)), cond_true, hd]
        simp only [hget, hset, Option.bind_some, succ_nat hlt hm]
        refine ⟨_, rfl, ⟨i + 1, hlt, ?_⟩, by show l.length - ((i : Int) + 1).toNat < l.length - (i : Int).toNat; omega⟩
        rw [exE_step l hlt]
        simp [zE]
      · right
        have hi2 : i = l.length := by omega
        subst hi2
        rw [decide_eq_false (by omega), cond_false, List.take_length, List.drop_length, hlen]
        refine ⟨_, rfl, ?_⟩
        simp)
  rw [hr, hQ]

theorem ref_of21 (p0 : List Int) (hl : p0.length ≤ 65536) : ref21_Of p0 = some (⟨(p0.length : Int), exE (sortZ p0)⟩, 0) := by
  have hm : p0.length ≤ maxLen := by rw [maxLen_eq]; omega
  unfold ref21_Of
  rw [decide_eq_false (by omega), cond_false]
  unfold ref21_Of_l3
  obtain ⟨r, hr, hQ⟩ := loop_ind (f := fun s : Int × List api_Entry => ref21_Of_l3s p0 s.1 s.2)
    (fun s => ∃ (i : Nat) (S : List Int), i ≤ p0.length ∧ S.Pairwise (· ≤ ·) ∧ S.Perm (p0.take i) ∧ s = ((i : Int), S.map zE))
    (fun s => p0.length - s.1.toNat) (fun r => r = (⟨(p0.length : Int), exE (sortZ p0)⟩, 0)) (0, []) ⟨0, [], Nat.zero_le _, List.Pairwise.nil, List.Perm.nil, rfl⟩ (by
      rintro _ ⟨i, S, hi, hS, hp, rfl⟩
      simp only
      have hSl : S.length = i := by have := hp.length_eq; rw [this, List.length_take]; omega
      unfold ref21_Of_l3s
      by_cases hlt : i < p0.length
      · left
        simp only [Int.ofNat_lt, hlt, decide_true, cond_true, idx_nat, get_some hlt, Option.bind_some]
        rw [ck_pos (by rw [decide_eq_true_eq, List.length_map, List.length_singleton]; omega)]
        obtain ⟨k, k1, k2, k3, k4⟩ := ref_ins S p0[i] (i : Int) (by omega) hS
        have hstart : S.map zE ++ [⟨p0[i], 0, 0⟩] = (insAt S p0[i] S.length).map zE := by
          unfold insAt
          rw [List.take_length, List.drop_length, List.map_append]
          rfl
        rw [hstart, List.length_map, k4, succ_nat hlt hm]
        obtain ⟨q1, q2⟩ := insAt_sorted S p0[i] k1 hS k2 k3
        refine ⟨_, rfl, ⟨i + 1, insAt S p0[i] k, hlt, q1, ?_, rfl⟩, by show p0.length - ((i : Int) + 1).toNat < p0.length - (i : Int).toNat; omega⟩
        rw [List.take_succ_eq_append_getElem hlt]
        refine q2.trans ?_
        refine (List.Perm.cons _ hp).trans ?_
        exact (List.perm_append_singleton _ _).symm
      · right
        have hi2 : i = p0.length := by omega
        rw [decide_eq_false (by omega), cond_false]
        have hpp : S.Perm p0 := by rw [hi2, List.take_length] at hp; exact hp
        have hSe : S = sortZ p0 := sorted_unique hS (sortZ_sorted p0) (hpp.trans (sortZ_perm p0).symm)
        rw [ref_number S p0 (by omega) (by omega), hSe, sortZ_length]
        exact ⟨_, rfl, rfl⟩)
  rw [hr, hQ]

/-! ### Same -/

theorem same_refl (r : api_Ranks) (hl : r.Entries.length ≤ 100000) : ref21_Same r r = some true := by
  have hm : r.Entries.length ≤ maxLen := by rw [maxLen_eq]; omega
  unfold ref21_Same
  simp only [bne_self_eq_false, Bool.or_self, cond_false]
  unfold ref21_Same_l3
  have := loop_all (f := fun s : Int => ref21_Same_l3s r r s) (n := r.Entries.length) (bad := fun _ => false) (E := false) (A := some true)
    (fun i hi => by
      unfold ref21_Same_l3s
      simp only [Int.ofNat_lt, hi, decide_true, cond_true, ent_idx hi, Option.bind_some, succ_nat hi hm, beq_self_eq_true, Bool.and_self, Bool.not_true, cond_false])
    (by
      unfold ref21_Same_l3s
      simp only [Int.lt_irrefl, decide_false, cond_false])
  have hn : (List.range r.Entries.length).any (fun _ => false) = false := by rw [List.any_eq_false]; intro _ _; exact Bool.false_ne_true
  rw [hn] at this
  exact this

/-! ### The statement RankOf -/

theorem exE_ok (l : List Int) (hs : l.Pairwise (· ≤ ·)) (hl : l.length ≤ 65536) : okB ⟨(l.length : Int), exE l⟩ = true := by
  rw [okB_iff]
  have hel := exE_length l
  refine ⟨by simp only; omega, by simp only; omega, by simp only; omega, fun i hi => ?_, fun i hi => ?_, fun h0 => ?_, fun h0 => ?_⟩
  · rw [hel] at hi
    rw [exE_ent l hi]
    simp only
    omega
  · rw [hel] at hi
    rw [exE_ent l (by omega), exE_ent l hi]
    refine ⟨List.pairwise_iff_getElem.1 hs i (i + 1) (by omega) hi (by omega), ?_, ?_⟩ <;> (simp only; omega)
  · rw [hel] at h0
    rw [exE_ent l h0]
    rfl
  · rw [hel] at h0 ⊢
    rw [exE_ent l (by omega)]
    simp only
    omega

theorem exE_gapTo (l : List Int) : ∀ i, i ≤ l.length → gapTo (exE l) i = 1 := by
  intro i
  induction i with
  | zero => intro _; rfl
  | succ i ih =>
    intro hi
    unfold gapTo
    by_cases h0 : i = 0
    · rw [if_pos h0]
    · rw [if_neg h0, ih (by omega), exE_ent l (by omega), exE_ent l (by omega)]
      simp only
      rw [if_neg (by omega)]

theorem law21_RankOf_true (p0 : List Int) (_ : wfL (wfI .i64) p0) : law21_RankOf p0 = some true := by
  unfold law21_RankOf
  rw [law21_awake_true]
  by_cases hc : (p0.length : Int) > 200
  · rw [decide_eq_true hc]; rfl
  · rw [decide_eq_false hc, cond_false, rank_of p0 (by omega), ref_of21 p0 (by omega)]
    simp only [Option.bind_some]
    have hel : (exE (sortZ p0)).length = p0.length := by rw [exE_length, sortZ_length]
    rw [same_refl _ (by simp only; omega)]
    simp only [Option.bind_some, beq_self_eq_true, Bool.and_self, gd_true]
    have hok := exE_ok (sortZ p0) (sortZ_sorted p0) (by rw [sortZ_length]; omega)
    rw [sortZ_length] at hok
    rw [rank_validate _ (by simp only; omega), rank_gap _ (by simp only; omega), hok]
    simp only [Option.bind_some, cond_true, beq_self_eq_true, Bool.and_self, gd_true]
    have hg : gapR (exE (sortZ p0)) = imin 1 (p0.length : Int) := by
      unfold gapR
      rw [hel]
      by_cases h0 : p0.length = 0
      · rw [if_pos h0, h0]; rfl
      · rw [if_neg h0, exE_gapTo _ _ (by rw [sortZ_length]; omega)]
        show (1 : Int) = if (p0.length : Int) < 1 then (p0.length : Int) else 1
        rw [if_neg (by omega)]
    rw [hg]
    simp

end Go.Win
