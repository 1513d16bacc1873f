/- Pu: chapter 21, the bounds of summaries are true for the values. -/
import Derived.Test.YtmipeaidieflmaaPuMerge
import Derived.Test.YtmipeaidieflmaaPuPrune
set_option linter.unusedVariables false
set_option linter.unusedSimpArgs false
set_option linter.unnecessarySimpa false
set_option linter.unusedSectionVars false
namespace Go.Win
open Go.Vc Go.Dec

/-- How many values are at most v, and how many are less. -/
def leC (vs : List Int) (v : Int) : Nat := vs.countP fun x => decide (x ≤ v)
def ltC (vs : List Int) (v : Int) : Nat := vs.countP fun x => decide (x < v)

theorem leC_len (vs : List Int) (v : Int) : leC vs v ≤ vs.length := List.countP_le_length
theorem ltC_len (vs : List Int) (v : Int) : ltC vs v ≤ vs.length := List.countP_le_length
theorem leC_mono (vs : List Int) {u v : Int} (h : u ≤ v) : leC vs u ≤ leC vs v := by
  unfold leC
  refine List.countP_mono_left fun x _ hx => ?_
  simp only [decide_eq_true_eq] at hx ⊢
  omega
theorem ltC_mono (vs : List Int) {u v : Int} (h : u ≤ v) : ltC vs u ≤ ltC vs v := by
  unfold ltC
  refine List.countP_mono_left fun x _ hx => ?_
  simp only [decide_eq_true_eq] at hx ⊢
  omega
theorem leC_app (a b : List Int) (v : Int) : leC (a ++ b) v = leC a v + leC b v := List.countP_append
theorem ltC_app (a b : List Int) (v : Int) : ltC (a ++ b) v = ltC a v + ltC b v := List.countP_append
theorem leC_perm {a b : List Int} (h : a.Perm b) (v : Int) : leC a v = leC b v := h.countP_eq _
theorem ltC_perm {a b : List Int} (h : a.Perm b) (v : Int) : ltC a v = ltC b v := h.countP_eq _
theorem ltC_le (vs : List Int) (v : Int) : ltC vs v ≤ leC vs v := by
  unfold ltC leC
  refine List.countP_mono_left fun x _ hx => ?_
  simp only [decide_eq_true_eq] at hx ⊢
  omega
theorem lt_le_mem {vs : List Int} {v : Int} (h : v ∈ vs) : ltC vs v + 1 ≤ leC vs v := by
  induction vs with
  | nil => cases h
  | cons x l ih =>
    have e1 : ltC (x :: l) v = ltC l v + if x < v then 1 else 0 := by unfold ltC; rw [List.countP_cons]; simp only [decide_eq_true_eq]
    have e2 : leC (x :: l) v = leC l v + if x ≤ v then 1 else 0 := by unfold leC; rw [List.countP_cons]; simp only [decide_eq_true_eq]
    rw [e1, e2]
    rcases List.mem_cons.1 h with h1 | h1
    · subst h1
      have := ltC_le l v
      split <;> split <;> omega
    · have := ih h1
      split <;> split <;> omega

/-- The summary is in order, and true for the values. -/
structure Tru (l : List api_Entry) (N : Int) (vs : List Int) : Prop where
  ok : OkR l N
  cnt : N = (vs.length : Int)
  mem : ∀ i, i < l.length → (ent l i).V ∈ vs
  mn : ∀ i, i < l.length → (ent l i).Min ≤ (leC vs (ent l i).V : Int)
  mx : ∀ i, i < l.length → (ltC vs (ent l i).V : Int) + 1 ≤ (ent l i).Max

theorem Tru.perm {l : List api_Entry} {N : Int} {vs ws : List Int} (h : Tru l N vs) (hp : vs.Perm ws) : Tru l N ws :=
  ⟨h.ok, by rw [h.cnt, hp.length_eq], fun i hi => hp.mem_iff.1 (h.mem i hi), fun i hi => by rw [← leC_perm hp]; exact h.mn i hi, fun i hi => by rw [← ltC_perm hp]; exact h.mx i hi⟩

theorem sorted_le {S : List Int} (hs : S.Pairwise (· ≤ ·)) {i : Nat} (hi : i < S.length) : i + 1 ≤ leC S S[i] ∧ ltC S S[i] ≤ i := by
  have e : S = S.take (i + 1) ++ S.drop (i + 1) := (List.take_append_drop _ _).symm
  have e' : S = S.take i ++ S.drop i := (List.take_append_drop _ _).symm
  have hle : ∀ x ∈ S.take (i + 1), x ≤ S[i] := by
    intro x hx
    obtain ⟨j, hj, rfl⟩ := List.getElem_of_mem hx
    rw [List.length_take] at hj
    rw [List.getElem_take]
    by_cases h : j = i
    · subst h; exact Int.le_refl _
    · exact List.pairwise_iff_getElem.1 hs j i (by omega) hi (by omega)
  have hge : ∀ x ∈ S.drop i, S[i] ≤ x := by
    intro x hx
    obtain ⟨j, hj, rfl⟩ := List.getElem_of_mem hx
    rw [List.length_drop] at hj
    rw [List.getElem_drop]
    by_cases h : j = 0
    · subst h; exact Int.le_refl _
    · exact List.pairwise_iff_getElem.1 hs i (i + j) hi (by omega) (by omega)
  generalize hv : S[i] = v at hle hge
  constructor
  · rw [e, leC_app]
    have : leC (S.take (i + 1)) v = (S.take (i + 1)).length := List.countP_eq_length.2 fun x hx => by simpa using hle x hx
    rw [this, List.length_take]
    omega
  · rw [e', ltC_app]
    have h1 : ltC (S.drop i) v = 0 := List.countP_eq_zero.2 fun x hx => by have := hge x hx; simp only [decide_eq_true_eq]; omega
    have h2 := ltC_len (S.take i) v
    rw [List.length_take] at h2
    omega

theorem tru_exact {l : List Int} (hl : l.length ≤ 65536) : Tru (exE (sortZ l)) (l.length : Int) l := by
  have hlen := sortZ_length l
  have hp := sortZ_perm l
  have hs := sortZ_sorted l
  have hok : OkR (exE (sortZ l)) ((sortZ l).length : Int) := (okB_iff ⟨_, _⟩).1 (exE_ok (sortZ l) hs (by omega))
  refine Tru.perm (vs := sortZ l) ⟨by rw [← hlen]; exact hok, by rw [hlen], fun i hi => ?_, fun i hi => ?_, fun i hi => ?_⟩ hp
  all_goals
    rw [exE_length] at hi
    rw [exE_ent _ hi]
    simp only
    have := sorted_le hs hi
  · exact List.getElem_mem _
  · omega
  · omega

theorem loAt_up {l : List api_Entry} {N : Int} (h : OkR l N) {m : Nat} (hm : m < l.length) : loAt l m < loAt l (m + 1) := by
  unfold loAt
  rw [if_neg (show ¬ m + 1 = 0 by omega), Nat.add_sub_cancel]
  split
  · have := h.rng m hm; omega
  · have := h.up (m - 1) (by omega)
    rw [show m - 1 + 1 = m by omega] at this
    omega

theorem hiAt_up {l : List api_Entry} {N : Int} (h : OkR l N) {m : Nat} (hm : m < l.length) : hiAt l N m < hiAt l N (m + 1) := by
  unfold hiAt
  rw [if_pos hm]
  split
  · have := h.up m (by omega); omega
  · have := h.rng m hm; omega

theorem loAt_last {l : List api_Entry} {N : Int} (h : OkR l N) : loAt l l.length = N := by
  unfold loAt
  split
  · rename_i h0; exact (h.nil.1 h0).symm
  · exact h.last (by omega)

theorem hiAt_first {l : List api_Entry} {N : Int} (h : OkR l N) : hiAt l N 0 = 0 := by
  unfold hiAt
  split
  · rename_i h0; have := h.first h0; omega
  · exact h.nil.1 (by omega)

theorem me_V {A B : List api_Entry} {a b : Int} (k : Nat) : (me A B a b k).V = cond (tk A B (ptM A B k)) (ent A (ptM A B k).1).V (ent B (ptM A B k).2).V := rfl

theorem merge_ok {A B : List api_Entry} {a b : Int} (hA : OkR A a) (hB : OkR B b) (hs : a + b ≤ 1099511627776) : OkR (meL A B a b (A.length + B.length)) (a + b) := by
  have a0 := hA.n0
  have b0 := hB.n0
  refine ⟨by omega, hs, ?_, fun i hi => ?_, fun i hi => ?_, fun h0 => ?_, fun h0 => ?_⟩
  · rw [meL_length]
    have h1 := hA.nil
    have h2 := hB.nil
    omega
  · rw [meL_length] at hi
    rw [meL_ent A B a b hi]
    obtain ⟨i1, i2, i3⟩ := pt_in A B i (by omega)
    cases ht : tk A B (ptM A B i) with
    | true =>
      obtain ⟨t1, _⟩ := tk_left i1 i2 (by omega) ht
      rw [me_left hi ht]
      have := hA.rng _ t1
      have := bounds_order hB i2
      simp only
      omega
    | false =>
      obtain ⟨t1, _⟩ := tk_right i2 ht
      rw [me_right hi ht]
      have := hB.rng _ t1
      have := bounds_order hA i1
      simp only
      omega
  · rw [meL_length] at hi
    rw [meL_ent A B a b (show i < A.length + B.length by omega), meL_ent A B a b hi]
    obtain ⟨i1, i2, i3⟩ := pt_in A B i (by omega)
    obtain ⟨j1, j2, j3⟩ := pt_in A B (i + 1) (by omega)
    obtain ⟨v1, v2⟩ := pt_inv hA hB (i + 1) (by omega)
    have estep : ptM A B (i + 1) = stepP A B (ptM A B i) := rfl
    have estep2 : ptM A B (i + 1 + 1) = stepP A B (ptM A B (i + 1)) := rfl
    refine ⟨?_, ?_, ?_⟩
    · rw [me_V, me_V]
      cases ht : tk A B (ptM A B i) with
      | true =>
        have e : ptM A B (i + 1) = ((ptM A B i).1 + 1, (ptM A B i).2) := by rw [estep]; unfold stepP; rw [ht]; rfl
        cases ht2 : tk A B (ptM A B (i + 1)) with
        | true =>
          obtain ⟨t1, _⟩ := tk_left j1 j2 (by omega) ht2
          simp only [cond_true]
          rw [e] at t1 ⊢
          exact (hA.up _ t1).1
        | false =>
          obtain ⟨t1, _⟩ := tk_right j2 ht2
          simp only [cond_true, cond_false]
          exact v2 _ (by rw [e]; exact Nat.lt_succ_self _) t1
      | false =>
        have e : ptM A B (i + 1) = ((ptM A B i).1, (ptM A B i).2 + 1) := by rw [estep]; unfold stepP; rw [ht]; rfl
        cases ht2 : tk A B (ptM A B (i + 1)) with
        | true =>
          obtain ⟨t1, _⟩ := tk_left j1 j2 (by omega) ht2
          simp only [cond_true, cond_false]
          exact Int.le_of_lt (v1 _ (by rw [e]; exact Nat.lt_succ_self _) t1)
        | false =>
          obtain ⟨t1, _⟩ := tk_right j2 ht2
          simp only [cond_false]
          rw [e] at t1 ⊢
          exact (hB.up _ t1).1
    · show loAt A (ptM A B (i + 1)).1 + loAt B (ptM A B (i + 1)).2 < loAt A (ptM A B (i + 1 + 1)).1 + loAt B (ptM A B (i + 1 + 1)).2
      rw [estep2]
      unfold stepP
      cases ht2 : tk A B (ptM A B (i + 1)) with
      | true =>
        obtain ⟨t1, _⟩ := tk_left j1 j2 (by omega) ht2
        have := loAt_up hA t1
        simp only [cond_true]
        omega
      | false =>
        obtain ⟨t1, _⟩ := tk_right j2 ht2
        have := loAt_up hB t1
        simp only [cond_false]
        omega
    · show hiAt A a (ptM A B i).1 + hiAt B b (ptM A B i).2 + 1 < hiAt A a (ptM A B (i + 1)).1 + hiAt B b (ptM A B (i + 1)).2 + 1
      rw [estep]
      unfold stepP
      cases ht : tk A B (ptM A B i) with
      | true =>
        obtain ⟨t1, _⟩ := tk_left i1 i2 (by omega) ht
        have := hiAt_up hA t1
        simp only [cond_true]
        omega
      | false =>
        obtain ⟨t1, _⟩ := tk_right i2 ht
        have := hiAt_up hB t1
        simp only [cond_false]
        omega
  · rw [meL_length] at h0
    rw [meL_ent A B a b h0]
    show hiAt A a 0 + hiAt B b 0 + 1 = 1
    rw [hiAt_first hA, hiAt_first hB]
    rfl
  · rw [meL_length] at h0 ⊢
    rw [meL_ent A B a b (by omega)]
    show loAt A (ptM A B (A.length + B.length - 1 + 1)).1 + loAt B (ptM A B (A.length + B.length - 1 + 1)).2 = a + b
    rw [show A.length + B.length - 1 + 1 = A.length + B.length by omega]
    obtain ⟨i1, i2, i3⟩ := pt_in A B (A.length + B.length) (Nat.le_refl _)
    rw [show (ptM A B (A.length + B.length)).1 = A.length by omega, show (ptM A B (A.length + B.length)).2 = B.length by omega, loAt_last hA, loAt_last hB]

theorem Tru.lo {l : List api_Entry} {N : Int} {vs : List Int} (h : Tru l N vs) {m : Nat} (hm : m ≤ l.length) {v : Int} (hv : ∀ i, i < m → (ent l i).V ≤ v) : loAt l m ≤ (leC vs v : Int) := by
  unfold loAt
  split
  · omega
  · have h1 := h.mn (m - 1) (by omega)
    have h2 := leC_mono vs (hv (m - 1) (by omega))
    omega

theorem Tru.hi {l : List api_Entry} {N : Int} {vs : List Int} (h : Tru l N vs) {m : Nat} {v : Int} (hv : m < l.length → v ≤ (ent l m).V) : (ltC vs v : Int) ≤ hiAt l N m := by
  unfold hiAt
  split
  · rename_i hm
    have h1 := h.mx m hm
    have h2 := ltC_mono vs (hv hm)
    omega
  · have := ltC_len vs v
    rw [h.cnt]
    omega

theorem Tru.hi' {l : List api_Entry} {N : Int} {vs : List Int} (h : Tru l N vs) {m : Nat} {v : Int} (hv : m < l.length → v < (ent l m).V) : (leC vs v : Int) ≤ hiAt l N m := by
  unfold hiAt
  split
  · rename_i hm
    have h1 := h.mx m hm
    have h2 : leC vs v ≤ ltC vs (ent l m).V := by
      unfold leC ltC
      refine List.countP_mono_left fun x _ hx => ?_
      have := hv hm
      simp only [decide_eq_true_eq] at hx ⊢
      omega
    omega
  · have := leC_len vs v
    rw [h.cnt]
    omega

theorem tru_merge {A B : List api_Entry} {a b : Int} {vs ws : List Int} (hA : Tru A a vs) (hB : Tru B b ws) (hs : a + b ≤ 1099511627776) : Tru (meL A B a b (A.length + B.length)) (a + b) (vs ++ ws) := by
  refine ⟨merge_ok hA.ok hB.ok hs, by rw [hA.cnt, hB.cnt, List.length_append]; omega, fun i hi => ?_, fun i hi => ?_, fun i hi => ?_⟩
  all_goals
    rw [meL_length] at hi
    rw [meL_ent A B a b hi]
    obtain ⟨i1, i2, i3⟩ := pt_in A B i (by omega)
    obtain ⟨v1, v2⟩ := pt_inv hA.ok hB.ok i (by omega)
    cases ht : tk A B (ptM A B i)
  · obtain ⟨t1, _⟩ := tk_right i2 ht
    rw [me_right hi ht]
    exact List.mem_append_right _ (hB.mem _ t1)
  · obtain ⟨t1, _⟩ := tk_left i1 i2 (by omega) ht
    rw [me_left hi ht]
    exact List.mem_append_left _ (hA.mem _ t1)
  · obtain ⟨t1, _⟩ := tk_right i2 ht
    rw [me_right hi ht, leC_app]
    have h1 := hB.mn _ t1
    have h2 := hA.lo (v := (ent B (ptM A B i).2).V) i1 (fun j hj => v2 j hj t1)
    simp only
    omega
  · obtain ⟨t1, _⟩ := tk_left i1 i2 (by omega) ht
    rw [me_left hi ht, leC_app]
    have h1 := hA.mn _ t1
    have h2 := hB.lo (v := (ent A (ptM A B i).1).V) i2 (fun j hj => Int.le_of_lt (v1 j hj t1))
    simp only
    omega
  · obtain ⟨t1, t2⟩ := tk_right i2 ht
    rw [me_right hi ht, ltC_app]
    have h1 := hB.mx _ t1
    have h2 := hA.hi (m := (ptM A B i).1) (v := (ent B (ptM A B i).2).V) (fun hm => by
      have ht' := ht
      unfold tk at ht'
      rw [Bool.or_eq_false_iff, Bool.and_eq_false_iff, decide_eq_false_iff_not, decide_eq_false_iff_not, decide_eq_false_iff_not] at ht'
      omega)
    simp only
    omega
  · obtain ⟨t1, t2⟩ := tk_left i1 i2 (by omega) ht
    rw [me_left hi ht, ltC_app]
    have h1 := hA.mx _ t1
    have h2 := hB.hi (m := (ptM A B i).2) (v := (ent A (ptM A B i).1).V) (fun hm => by
      have ht' := ht
      unfold tk at ht'
      rw [Bool.or_eq_true, Bool.and_eq_true, decide_eq_true_eq, decide_eq_true_eq, decide_eq_true_eq] at ht'
      omega)
    simp only
    omega

theorem tru_sub {l : List api_Entry} {N : Int} {vs : List Int} (h : Tru l N vs) {c : List Nat} (hc : ∀ j ∈ c, j < l.length) (hok : OkR (c.map (ent l)) N) : Tru (c.map (ent l)) N vs := by
  have he : ∀ i, i < (c.map (ent l)).length → ∃ j, j < l.length ∧ ent (c.map (ent l)) i = ent l j := fun i hi => by
    rw [List.length_map] at hi
    refine ⟨c[i], hc _ (List.getElem_mem _), ?_⟩
    rw [ent_get (by rw [List.length_map]; exact hi), List.getElem_map]
  refine ⟨hok, h.cnt, fun i hi => ?_, fun i hi => ?_, fun i hi => ?_⟩ <;> obtain ⟨j, j1, j2⟩ := he i hi <;> rw [j2]
  · exact h.mem j j1
  · exact h.mn j j1
  · exact h.mx j j1

theorem kept_mem {K : Nat → Nat} : ∀ {m x : Nat}, x ∈ kept K m → ∃ i, i < m ∧ x = K i
  | 0, x, h => by cases h
  | m + 1, x, h => by
    unfold kept at h
    rcases List.mem_append.1 h with h1 | h1
    · obtain ⟨i, i1, i2⟩ := kept_mem h1
      exact ⟨i, by omega, i2⟩
    · split at h1
      · simp only [List.mem_singleton] at h1
        exact ⟨m, by omega, h1⟩
      · cases h1

theorem prune_tru {l : List api_Entry} {N : Int} {vs : List Int} (h : Tru l N vs) (hl : l.length ≤ 1048576) {b : Nat} (hb1 : 1 ≤ b) (hb2 : b ≤ 65536) :
    ∃ l', rank_Prune ⟨N, l⟩ (b : Int) = some (⟨N, l'⟩, 0) ∧ Tru l' N vs ∧ l'.length ≤ b + 1 := by
  have hok : okB ⟨N, l⟩ = true := (okB_iff _).2 h.ok
  unfold rank_Prune
  rw [rank_validate ⟨N, l⟩ hl]
  simp only [Option.bind_some, hok, cond_true, bne_self_eq_false, cond_false]
  have e0 : (decide ((b : Int) < 1) || decide ((b : Int) > 65536)) = false := by
    rw [Bool.or_eq_false_iff, decide_eq_false_iff_not, decide_eq_false_iff_not]; omega
  have e1 : w64 ((b : Int) + 1) = (b : Int) + 1 := by rw [w64_id] <;> omega
  rw [e0, e1]
  simp only [cond_false]
  by_cases hle : (l.length : Int) ≤ (b : Int) + 1
  · rw [decide_eq_true hle]
    simp only [cond_true]
    unfold rank_copied
    rw [ck_pos (by rw [decide_eq_true_eq, List.length_nil]; simp only; omega)]
    exact ⟨l, by simp, h, by omega⟩
  · rw [decide_eq_false hle]
    simp only [cond_false]
    have hpos : 0 < l.length := by omega
    rw [prune_loop h.ok hl hpos hb1 hb2 ⟨N, l⟩ rfl rfl]
    refine ⟨_, rfl, tru_sub h (fun j hj => ?_) (prune_ok h.ok hl hpos hb1 hb2).1, ?_⟩
    · obtain ⟨i, i1, rfl⟩ := kept_mem hj
      have hN : 1 ≤ N := by have := h.ok.rng 0 hpos; omega
      exact (kOf_place h.ok (rk_range hN hb1 (show i ≤ b by omega)) hl).lt
    · have := kept_len (fun i => kOf l (rk N (b : Int) i)) (b + 1)
      simp only [List.length_map]
      omega

theorem merge_tru {A B : List api_Entry} {a b : Int} {vs ws : List Int} (hA : Tru A a vs) (hB : Tru B b ws) (hs : a + b ≤ 1099511627776) (la : A.length ≤ 1000) (lb : B.length ≤ 1000) :
    ∃ l, rank_Merge ⟨a, A⟩ ⟨b, B⟩ = some (⟨a + b, l⟩, 0) ∧ Tru l (a + b) (vs ++ ws) ∧ l.length = A.length + B.length := by
  refine ⟨_, ?_, tru_merge hA hB hs, by rw [meL_length]⟩
  rw [rank_merge _ _ la lb]
  unfold mergeR
  rw [(okB_iff ⟨a, A⟩).2 hA.ok, (okB_iff ⟨b, B⟩).2 hB.ok]
  simp only [Bool.and_self, cond_true]
  rw [decide_eq_false (by omega)]
  rfl

theorem rank_tru {l : List api_Entry} {N : Int} {vs : List Int} (h : Tru l N vs) (hl : l.length ≤ 1048576) (v : Int) :
    ∃ lo hi, rank_Rank ⟨N, l⟩ v = some ((bounds_Whole lo hi).1, 0) ∧ lo ≤ (leC vs v : Int) ∧ (leC vs v : Int) ≤ hi ∧ 0 ≤ lo ∧ hi ≤ N := by
  obtain ⟨m, h1, h2, h3⟩ := split_at h.ok v
  obtain ⟨b1, b2, b3⟩ := bounds_order h.ok h1
  refine ⟨loAt l m, hiAt l N m, ?_, h.lo h1 h2, h.hi' (fun hm => h3 m (Nat.le_refl _) hm), b1, b3⟩
  unfold rank_Rank
  rw [rank_validate ⟨N, l⟩ hl, (okB_iff ⟨N, l⟩).2 h.ok]
  simp only [Option.bind_some, cond_true, bne_self_eq_false, cond_false]
  rw [rank_rank_loop (r := ⟨N, l⟩) h.ok v hl h1 h2 h3]
end Go.Win

