/- Pu: chapter 19, samples of chains. -/
import Derived.Test.YtbolhhoklijnpaaPu18
import Derived.Test.YtbolhhoklijnpaaWin
namespace Go.Win
open Go.Vc Go.Dec

theorem bind_congr {α β : Type} {m : Option α} {f g : α → Option β} (h : ∀ x, m = some x → f x = g x) : m.bind f = m.bind g := by
  cases m with
  | none => rfl
  | some x => exact h x rfl

theorem idx_mem {α : Type} {l : List α} {i : Int} {x : α} (h : idx l i = some x) : x ∈ l := List.mem_of_getElem? (idx_some h).2

theorem add_eq' (x : api_Chain) (v : Int) (draws : List Int) (at_ : Int) (hl : x.Links.length ≤ maxLen) (hd : draws.length ≤ maxLen) : chain_Add x v draws at_ = ref18_Add x v draws at_ := by
  obtain ⟨r, h1, h2⟩ := add_eq x v draws at_ hl hd
  rw [h1, h2]

theorem needs_eq' (x : api_Chain) (v : Int) (draws : List Int) (at_ : Int) (hl : x.Links.length ≤ maxLen) (hd : draws.length ≤ maxLen) : chain_Needs x v draws at_ = ref18_Needs x v draws at_ := by
  obtain ⟨r, h1, h2⟩ := needs_eq x v draws at_ hl hd
  rw [h1, h2]

theorem ask_total (x : api_Chain) (hl : x.Links.length ≤ maxLen) : ∃ a, chain_Ask x = some a := by
  obtain ⟨r, hr, hok⟩ := validate_total x hl
  unfold chain_Ask
  rw [hr]
  simp only [Option.bind_some]
  by_cases h0 : r = 0
  · subst h0
    simp only [bne_self_eq_false, cond_false]
    by_cases h1 : x.Links = []
    · rw [h1]; exact ⟨_, rfl⟩
    · have hp := List.length_pos_iff.2 h1
      have h2 : ((x.Links.length : Int) == 0) = false := by rw [beq_eq_false_iff_ne]; omega
      have h3 : idx x.Links (0 : Int) = some x.Links[0] := by simp [idx, hp]
      simp only [h2, cond_false, h3, Option.bind_some]
      exact ⟨_, rfl⟩
  · have : (r != 0) = true := by simp [h0]
    simp only [this, cond_true]
    exact ⟨_, rfl⟩

theorem numbers_refl (l : List Int) (hl : l.length ≤ maxLen) : ref09_SameNumbers l l = some true := by
  have h : ref09_SameNumbers_l3 l l 0 = cond ((List.range l.length).any fun _ => false) (some false) (some true) := by
    unfold ref09_SameNumbers_l3
    refine loop_all (fun i hi => ?_) ?_
    · unfold ref09_SameNumbers_l3s
      simp [hi, succ_nat hi hl]
    · unfold ref09_SameNumbers_l3s
      simp
  have hf : ((List.range l.length).any fun _ => false) = false := by simp
  rw [hf] at h
  unfold ref09_SameNumbers
  simp [h]

theorem same19_refl (x : api_Sample) (hl : x.Chains.length ≤ maxLen) (hc : ∀ c ∈ x.Chains, c.Links.length ≤ maxLen) : ref19_Same x x = some true := by
  have h : ref19_Same_l3 x x 0 = cond ((List.range x.Chains.length).any fun _ => false) (some false) (some true) := by
    unfold ref19_Same_l3
    refine loop_all (fun i hi => ?_) ?_
    · unfold ref19_Same_l3s
      have := same_refl x.Chains[i] (hc _ (List.getElem_mem hi))
      simp [hi, succ_nat hi hl, this]
    · unfold ref19_Same_l3s
      simp
  have hf : ((List.range x.Chains.length).any fun _ => false) = false := by simp
  rw [hf] at h
  unfold ref19_Same
  simp [h]

/-! ### Validate -/

def vC (x : api_Chain) : Prop := chain_Validate x = some 0

theorem validate19_eq (s : api_Sample) (hc : ∀ c ∈ s.Chains, c.Links.length ≤ maxLen) : sample_Validate s = ref19_Validate s := by
  have e : sample_Validate_l3s s = ref19_Validate_l3s s := by
    funext i
    unfold sample_Validate_l3s ref19_Validate_l3s
    congr 1
    refine bind_congr fun x hx => bind_congr fun y _ => ?_
    rw [validate_eq x (hc x (idx_mem hx))]
  unfold sample_Validate ref19_Validate sample_Validate_l3 ref19_Validate_l3
  rw [e]

theorem validate19_total (s : api_Sample) (hl : s.Chains.length ≤ maxLen) (hc : ∀ c ∈ s.Chains, c.Links.length ≤ maxLen) :
    ∃ r, sample_Validate s = some r ∧ (r = 0 → 1 ≤ s.Chains.length ∧ s.Chains.length ≤ 16 ∧ ∀ c ∈ s.Chains, chain_Validate c = some 0) := by
  unfold sample_Validate
  by_cases h : (decide ((s.Chains.length : Int) < 1) || decide ((s.Chains.length : Int) > 16)) = true
  · rw [h]
    exact ⟨2, rfl, fun h => by simp at h⟩
  · rw [Bool.not_eq_true] at h
    rw [h, cond_false]
    simp only [Bool.or_eq_false_iff, decide_eq_false_iff_not] at h
    unfold sample_Validate_l3
    obtain ⟨r, hr, hQ⟩ := loop_ind (f := fun i : Int => sample_Validate_l3s s i) (fun i => ∃ k : Nat, i = (k : Int) ∧ k ≤ s.Chains.length ∧ ∀ j (hj : j < s.Chains.length), j < k → chain_Validate s.Chains[j] = some 0)
      (fun i => s.Chains.length - i.toNat) (fun r => r = 2 ∨ (r = 0 ∧ ∀ c ∈ s.Chains, chain_Validate c = some 0)) 0 ⟨0, rfl, Nat.zero_le _, fun j _ hj => by omega⟩ (by
        rintro _ ⟨k, rfl, hk, hv⟩
        unfold sample_Validate_l3s
        by_cases hlt : k < s.Chains.length
        · obtain ⟨q, hq, _⟩ := validate_total s.Chains[k] (hc _ (List.getElem_mem hlt))
          have h0 : idx s.Chains (0 : Int) = some (s.Chains[0]'(by omega)) := by
            have := get_some (show 0 < s.Chains.length by omega)
            simp [idx, this]
          simp only [Int.ofNat_lt, hlt, decide_true, cond_true, idx_nat, get_some hlt, Option.bind_some, h0, hq]
          cases hb : (((q != 0) || (s.Chains[k].W != (s.Chains[0]'(by omega)).W)) || (s.Chains[k].Cap != (s.Chains[0]'(by omega)).Cap)) || (s.Chains[k].I != (s.Chains[0]'(by omega)).I) with
          | true => exact .inr ⟨2, rfl, .inl rfl⟩
          | false =>
            simp only [Bool.or_eq_false_iff, bne_eq_false_iff_eq] at hb
            left
            refine ⟨(k : Int) + 1, by rw [succ_nat hlt hl]; rfl, ⟨k + 1, by simp, hlt, fun j hj hjk => ?_⟩, by omega⟩
            by_cases hjk2 : j = k
            · subst hjk2; rw [hq, hb.1.1.1]
            · exact hv j hj (by omega)
        · right
          have : ¬ ((k : Int) < (s.Chains.length : Int)) := by omega
          simp only [this, decide_false, cond_false]
          refine ⟨0, rfl, .inr ⟨rfl, fun c hcm => ?_⟩⟩
          obtain ⟨j, hj, rfl⟩ := List.mem_iff_getElem.1 hcm
          exact hv j hj (by omega))
    refine ⟨r, hr, fun h0 => ⟨by omega, by omega, ?_⟩⟩
    rcases hQ with hQ | hQ
    · omega
    · exact hQ.2

theorem ask19_eq (s : api_Sample) (hc : ∀ c ∈ s.Chains, c.Links.length ≤ maxLen) : sample_Ask s = ref19_Ask s := by
  have e : sample_Ask_l3s s = ref19_Ask_l3s s := by
    funext l i
    unfold sample_Ask_l3s ref19_Ask_l3s
    congr 1
    refine bind_congr fun x hx => ?_
    rw [ask_eq x (hc x (idx_mem hx))]
  unfold sample_Ask ref19_Ask sample_Ask_l3 ref19_Ask_l3
  rw [e, validate19_eq s hc]

theorem ask19_total (s : api_Sample) (hl : s.Chains.length ≤ maxLen) (hc : ∀ c ∈ s.Chains, c.Links.length ≤ maxLen) : ∃ r, sample_Ask s = some r ∧ r.1.length ≤ 16 := by
  obtain ⟨q, hq, hok⟩ := validate19_total s hl hc
  unfold sample_Ask
  rw [hq, Option.bind_some]
  by_cases h0 : q = 0
  · obtain ⟨h1, h2, h3⟩ := hok h0
    subst h0
    simp only [bne_self_eq_false, cond_false]
    unfold sample_Ask_l3
    exact loop_ind (f := fun t : List Int × Int => sample_Ask_l3s s t.1 t.2) (fun t => ∃ k : Nat, t.2 = (k : Int) ∧ t.1.length = k ∧ k ≤ s.Chains.length)
      (fun t => s.Chains.length - t.1.length) (fun r => r.1.length ≤ 16) ([], 0) ⟨0, rfl, rfl, Nat.zero_le _⟩ (by
        rintro ⟨l, _⟩ ⟨k, rfl, hkl, hk⟩
        simp only at hkl ⊢
        unfold sample_Ask_l3s
        by_cases hlt : k < s.Chains.length
        · obtain ⟨a, ha⟩ := ask_total s.Chains[k] (hc _ (List.getElem_mem hlt))
          simp only [Int.ofNat_lt, hlt, decide_true, cond_true, idx_nat, get_some hlt, Option.bind_some, ha]
          by_cases he : a.2 = 0
          · left
            have hk2 : decide ((l.length + [a.1].length) * 8 ≤ 140737488355328) = true := by rw [decide_eq_true_eq, List.length_singleton]; omega
            refine ⟨(l ++ [a.1], (k : Int) + 1), ?_, ⟨k + 1, by simp, by simp [hkl], hlt⟩, by simp; omega⟩
            simp only [he, bne_self_eq_false, cond_false, hk2, ck_true, succ_nat hlt hl]
          · right
            have hb : (a.2 != 0) = true := by rw [bne_iff_ne]; exact he
            simp only [hb, cond_true]
            exact ⟨_, rfl, by simp⟩
        · right
          have : ¬ ((k : Int) < (s.Chains.length : Int)) := by omega
          simp only [this, decide_false, cond_false]
          exact ⟨_, rfl, by show l.length ≤ 16; omega⟩)
  · have hb : (q != 0) = true := by rw [bne_iff_ne]; exact h0
    simp only [hb, cond_true]
    exact ⟨_, rfl, by simp⟩

theorem few19 (s : api_Sample) (hl : s.Chains.length ≤ maxLen) : ∃ b, law19_few s = some b := by
  unfold law19_few law19_few_l2
  obtain ⟨r, hr, _⟩ := loop_ind (f := fun i : Int => law19_few_l2s s i) (fun i => ∃ k : Nat, i = (k : Int) ∧ k ≤ s.Chains.length)
    (fun i => s.Chains.length - i.toNat) (fun _ => True) 0 ⟨0, rfl, Nat.zero_le _⟩ (by
      rintro _ ⟨k, rfl, hk⟩
      unfold law19_few_l2s
      by_cases hlt : k < s.Chains.length
      · simp only [Int.ofNat_lt, hlt, decide_true, cond_true, idx_nat, get_some hlt, Option.bind_some, succ_nat hlt hl]
        cases decide ((s.Chains[k].Links.length : Int) > 100) with
        | true => exact .inr ⟨_, rfl, trivial⟩
        | false => exact .inl ⟨_, rfl, ⟨k + 1, by simp, hlt⟩, by omega⟩
      · right
        have : ¬ ((k : Int) < (s.Chains.length : Int)) := by omega
        simp only [this, decide_false, cond_false]
        exact ⟨_, rfl, trivial⟩)
  exact ⟨r, hr⟩

/-! ### New -/

theorem new19 (n w c : Int) (h1 : 1 ≤ n) (h2 : n ≤ 16) : sample_New_l3 n w c 0 [] = some (if (chain_New w c).2 = 0 then (⟨List.replicate n.toNat (chain_New w c).1⟩, 0) else (⟨[]⟩, (chain_New w c).2)) := by
  unfold sample_New_l3
  by_cases he : (chain_New w c).2 = 0
  · rw [if_pos he]
    obtain ⟨r, hr, hQ⟩ := loop_ind (f := fun t : Int × List api_Chain => sample_New_l3s n w c t.1 t.2) (fun t => ∃ k : Nat, t = ((k : Int), List.replicate k (chain_New w c).1) ∧ (k : Int) ≤ n)
      (fun t => (n - t.1).toNat) (fun r => r = (⟨List.replicate n.toNat (chain_New w c).1⟩, 0)) (0, []) ⟨0, rfl, by omega⟩ (by
        rintro _ ⟨k, rfl, hk⟩
        simp only
        unfold sample_New_l3s
        by_cases hlt : (k : Int) < n
        · left
          have hk2 : decide (((List.replicate k (chain_New w c).1).length + [(chain_New w c).1].length) * 56 ≤ 140737488355328) = true := by
            rw [decide_eq_true_eq, List.length_singleton, List.length_replicate]; omega
          have hs : w64 ((k : Int) + 1) = (k : Int) + 1 := by rw [w64_id] <;> omega
          refine ⟨((k : Int) + 1, List.replicate (k + 1) (chain_New w c).1), ?_, ⟨k + 1, by simp, by omega⟩, by show (n - ((k : Int) + 1)).toNat < (n - (k : Int)).toNat; omega⟩
          simp only [hlt, decide_true, cond_true, he, bne_self_eq_false, cond_false]
          rw [hk2, ck_true, hs, List.replicate_succ']
        · right
          have : n.toNat = k := by omega
          simp only [hlt, decide_false, cond_false]
          exact ⟨_, rfl, by rw [this]⟩)
    rw [hr, hQ]
  · rw [if_neg he]
    have hb : ((chain_New w c).2 != 0) = true := by rw [bne_iff_ne]; exact he
    refine loop_inr ?_
    unfold sample_New_l3s
    have : (0 : Int) < n := by omega
    simp only [this, decide_true, cond_true, hb]

theorem newR19 (n w c : Int) (h1 : 1 ≤ n) (h2 : n ≤ 16) : ref19_New_l3 w c n [] = some (if (ref18_New w c).2 = 0 then (⟨List.replicate n.toNat (ref18_New w c).1⟩, 0) else (⟨[]⟩, (ref18_New w c).2)) := by
  unfold ref19_New_l3
  by_cases he : (ref18_New w c).2 = 0
  · rw [if_pos he]
    obtain ⟨r, hr, hQ⟩ := loop_ind (f := fun t : Int × List api_Chain => ref19_New_l3s w c t.1 t.2) (fun t => ∃ k : Nat, t = (n - (k : Int), List.replicate k (ref18_New w c).1) ∧ (k : Int) ≤ n)
      (fun t => t.1.toNat) (fun r => r = (⟨List.replicate n.toNat (ref18_New w c).1⟩, 0)) (n, []) ⟨0, by simp, by omega⟩ (by
        rintro _ ⟨k, rfl, hk⟩
        simp only
        unfold ref19_New_l3s
        by_cases hlt : n - (k : Int) > 0
        · left
          have hk2 : decide (((List.replicate k (ref18_New w c).1).length + [(ref18_New w c).1].length) * 56 ≤ 140737488355328) = true := by
            rw [decide_eq_true_eq, List.length_singleton, List.length_replicate]; omega
          have hs : w64 (n - (k : Int) - 1) = n - (k : Int) - 1 := by rw [w64_id] <;> omega
          refine ⟨(n - (k : Int) - 1, List.replicate (k + 1) (ref18_New w c).1), ?_, ⟨k + 1, by simp; omega, by omega⟩, by show (n - (k : Int) - 1).toNat < (n - (k : Int)).toNat; omega⟩
          simp only [hlt, decide_true, cond_true, he, bne_self_eq_false, cond_false]
          rw [hk2, ck_true, hs, List.replicate_succ']
        · right
          have : n.toNat = k := by omega
          simp only [hlt, decide_false, cond_false]
          exact ⟨_, rfl, by rw [this]⟩)
    rw [hr, hQ]
  · rw [if_neg he]
    have hb : ((ref18_New w c).2 != 0) = true := by rw [bne_iff_ne]; exact he
    refine loop_inr ?_
    unfold ref19_New_l3s
    have : n > (0 : Int) := by omega
    simp only [this, decide_true, cond_true, hb]

theorem new18_eq (p0 p1 : Int) : chain_New p0 p1 = ref18_New p0 p1 := by
  unfold chain_New ref18_New
  congr 1
  rw [Bool.eq_iff_iff]
  simp only [ref06_Window, Bool.or_eq_true, Bool.not_eq_true', Bool.and_eq_false_iff, decide_eq_true_eq, decide_eq_false_iff_not]
  omega

theorem sample_new_eq (n w c : Int) : ∃ r, sample_New n w c = some r ∧ ref19_New n w c = some r ∧ r.1.Chains.length ≤ 16 ∧ ∀ x ∈ r.1.Chains, x.Links = [] := by
  unfold sample_New ref19_New
  by_cases h : (decide (n < 1) || decide (n > 16)) = true
  · rw [h]
    exact ⟨_, rfl, rfl, by simp, by simp⟩
  · rw [Bool.not_eq_true] at h
    rw [h, cond_false, cond_false]
    simp only [Bool.or_eq_false_iff, decide_eq_false_iff_not] at h
    rw [new19 n w c (by omega) (by omega), newR19 n w c (by omega) (by omega), new18_eq]
    refine ⟨_, rfl, rfl, ?_, ?_⟩
    · split
      · simp; omega
      · simp
    · split
      · intro x hx
        have := List.eq_of_mem_replicate hx
        subst this
        unfold ref18_New
        simp only
        cases ((!ref06_Window w) || decide (c < 1)) || decide (c > 64) <;> rfl
      · simp

theorem awake19 : law19_awake = some true := by
  have hv : chain_Validate ⟨1, 3, 1, 2, [⟨1, 7⟩]⟩ = some 0 := by
    have := loopC ⟨1, 3, 1, 2, [⟨1, 7⟩]⟩ (by simp [maxLen])
    unfold chain_Validate
    simp only [this]
    rfl
  have ha : chain_Ask ⟨1, 3, 1, 2, [⟨1, 7⟩]⟩ = some (7, 0) := by
    unfold chain_Ask
    rw [hv]
    rfl
  have h1 : sample_New 2 1 3 = some (⟨[⟨1, 3, 0, 0, []⟩, ⟨1, 3, 0, 0, []⟩]⟩, 0) := by
    unfold sample_New
    exact new19 2 1 3 (by decide) (by decide)
  have h2 : sample_Add ⟨[⟨1, 3, 0, 0, []⟩, ⟨1, 3, 0, 0, []⟩]⟩ 7 [0, 0, 0, 0] = some (⟨[⟨1, 3, 1, 2, [⟨1, 7⟩]⟩, ⟨1, 3, 1, 2, [⟨1, 7⟩]⟩]⟩, 0) := by
    have h3 : sample_Validate ⟨[⟨1, 3, 0, 0, []⟩, ⟨1, 3, 0, 0, []⟩]⟩ = some 0 := by
      unfold sample_Validate
      exact loop_of (n := 3) rfl
    unfold sample_Add
    rw [h3]
    exact loop_of (n := 3) rfl
  have h4 : sample_Ask ⟨[⟨1, 3, 1, 2, [⟨1, 7⟩]⟩, ⟨1, 3, 1, 2, [⟨1, 7⟩]⟩]⟩ = some ([7, 7], 0) := by
    have h3 : sample_Validate ⟨[⟨1, 3, 1, 2, [⟨1, 7⟩]⟩, ⟨1, 3, 1, 2, [⟨1, 7⟩]⟩]⟩ = some 0 := by
      unfold sample_Validate
      show sample_Validate_l3 _ 0 = _
      unfold sample_Validate_l3
      have s0 : sample_Validate_l3s ⟨[⟨1, 3, 1, 2, [⟨1, 7⟩]⟩, ⟨1, 3, 1, 2, [⟨1, 7⟩]⟩]⟩ 0 = some (.inl 1) := by
        unfold sample_Validate_l3s
        simp [idx, hv, w64, IntKind.wrap_i64]
      have s1 : sample_Validate_l3s ⟨[⟨1, 3, 1, 2, [⟨1, 7⟩]⟩, ⟨1, 3, 1, 2, [⟨1, 7⟩]⟩]⟩ 1 = some (.inl 2) := by
        unfold sample_Validate_l3s
        simp [idx, hv, w64, IntKind.wrap_i64]
      rw [loop_inl s0, loop_inl s1]
      exact loop_inr rfl
    unfold sample_Ask
    rw [h3]
    show sample_Ask_l3 _ [] 0 = _
    unfold sample_Ask_l3
    have s0 : sample_Ask_l3s ⟨[⟨1, 3, 1, 2, [⟨1, 7⟩]⟩, ⟨1, 3, 1, 2, [⟨1, 7⟩]⟩]⟩ [] 0 = some (.inl ([7], 1)) := by
      unfold sample_Ask_l3s
      simp [idx, ha, w64, IntKind.wrap_i64]
    have s1 : sample_Ask_l3s ⟨[⟨1, 3, 1, 2, [⟨1, 7⟩]⟩, ⟨1, 3, 1, 2, [⟨1, 7⟩]⟩]⟩ [7] 1 = some (.inl ([7, 7], 2)) := by
      unfold sample_Ask_l3s
      simp [idx, ha, w64, IntKind.wrap_i64]
    refine (loop_inl (f := fun s : List Int × Int => sample_Ask_l3s _ s.1 s.2) (s := ([], 0)) s0).trans ?_
    refine (loop_inl (f := fun s : List Int × Int => sample_Ask_l3s _ s.1 s.2) (s := ([7], 1)) s1).trans ?_
    exact loop_inr rfl
  unfold law19_awake
  rw [h1, Option.bind_some, h2, Option.bind_some, h4, Option.bind_some]
  simp [numbers_refl [7, 7] (by simp [maxLen])]

theorem law19_SampleNew_true (p0 p1 p2 : Int) (_ : wfI .i64 p0) (_ : wfI .i64 p1) (_ : wfI .i64 p2) : law19_SampleNew p0 p1 p2 = some true := by
  obtain ⟨r, h1, h2, h3, h4⟩ := sample_new_eq p0 p1 p2
  unfold law19_SampleNew
  rw [h1, h2, awake19]
  simp [same19_refl r.1 (by rw [maxLen_eq]; omega) (fun c hc => by rw [h4 c hc]; simp)]

theorem law19_SampleStates_true (p0 : api_Sample) (w0 : wf_api_Sample p0) : law19_SampleStates p0 = some true := by
  have hl : p0.Chains.length ≤ maxLen := w0.1
  have hc : ∀ c ∈ p0.Chains, c.Links.length ≤ maxLen := fun c h => (w0.2 c h).2.2.2.2.1
  obtain ⟨b, hb⟩ := few19 p0 hl
  obtain ⟨q, hq, _⟩ := validate19_total p0 hl hc
  obtain ⟨r, hr, hr2⟩ := ask19_total p0 hl hc
  unfold law19_SampleStates
  rw [hb, awake19, ← ask19_eq p0 hc, ← validate19_eq p0 hc, hq, hr]
  cases b with
  | false => rfl
  | true => simp [numbers_refl r.1 (by rw [maxLen_eq]; omega)]

/-! ### Add and Needs -/

/-- An item out of range is refused by the first chain. -/
theorem add_range (x : api_Chain) (v : Int) (draws : List Int) (at_ : Int) (hx : chain_Validate x = some 0) (hv : ref09_Value v = false) : ∃ r, chain_Add x v draws at_ = some r ∧ r.2.2 = 4 := by
  have hb : (decide (v < -4096) || decide (v > 4096)) = true := by
    unfold ref09_Value at hv
    simp only [Bool.and_eq_false_iff, decide_eq_false_iff_not] at hv
    simp only [Bool.or_eq_true, decide_eq_true_eq]
    omega
  unfold chain_Add
  rw [hx]
  unfold chain_add
  rw [hb]
  exact ⟨_, rfl, rfl⟩

theorem needs_range (x : api_Chain) (v : Int) (draws : List Int) (at_ : Int) (hx : chain_Validate x = some 0) (hv : ref09_Value v = false) : chain_Needs x v draws at_ = some (0, false) := by
  have hb : (decide (v < -4096) || decide (v > 4096)) = true := by
    unfold ref09_Value at hv
    simp only [Bool.and_eq_false_iff, decide_eq_false_iff_not] at hv
    simp only [Bool.or_eq_true, decide_eq_true_eq]
    omega
  unfold chain_Needs
  rw [hx]
  unfold chain_add
  rw [hb]
  rfl

theorem add19_loop_eq (s : api_Sample) (v : Int) (draws : List Int) (hc : ∀ c ∈ s.Chains, c.Links.length ≤ maxLen) (hd : draws.length ≤ maxLen) : sample_Add_l3 s v draws = ref19_Add_l4 s v draws := by
  have e : sample_Add_l3s s v draws = ref19_Add_l4s s v draws := by
    funext a i l
    unfold sample_Add_l3s ref19_Add_l4s
    congr 1
    refine bind_congr fun x hx => ?_
    rw [add_eq' x v draws a (hc x (idx_mem hx)) hd]
  funext a i l
  unfold sample_Add_l3 ref19_Add_l4
  rw [e]

theorem needs19_loop_eq (s : api_Sample) (v : Int) (draws : List Int) (hc : ∀ c ∈ s.Chains, c.Links.length ≤ maxLen) (hd : draws.length ≤ maxLen) : sample_Needs_l3 s v draws = ref19_Needs_l3 s v draws := by
  have e : sample_Needs_l3s s v draws = ref19_Needs_l3s s v draws := by
    funext a i
    unfold sample_Needs_l3s ref19_Needs_l3s
    congr 1
    refine bind_congr fun x hx => ?_
    rw [add_eq' x v draws a (hc x (idx_mem hx)) hd, needs_eq' x v draws a (hc x (idx_mem hx)) hd]
  funext a i
  unfold sample_Needs_l3 ref19_Needs_l3
  rw [e]

theorem add19_eq (s : api_Sample) (v : Int) (draws : List Int) (hl : s.Chains.length ≤ maxLen) (hc : ∀ c ∈ s.Chains, c.Links.length ≤ maxLen) (hd : draws.length ≤ maxLen) : sample_Add s v draws = ref19_Add s v draws := by
  obtain ⟨q, hq, hok⟩ := validate19_total s hl hc
  unfold sample_Add ref19_Add
  rw [← validate19_eq s hc, hq, Option.bind_some, Option.bind_some]
  by_cases h0 : q = 0
  · obtain ⟨h1, h2, h3⟩ := hok h0
    subst h0
    simp only [bne_self_eq_false, cond_false]
    cases hv : ref09_Value v with
    | true => rw [add19_loop_eq s v draws hc hd]; rfl
    | false =>
      have hm := List.getElem_mem (show 0 < s.Chains.length by omega)
      obtain ⟨r, hr, hr4⟩ := add_range s.Chains[0] v draws 0 (h3 _ hm) hv
      have h0' : idx s.Chains (0 : Int) = some s.Chains[0] := by
        have := get_some (show 0 < s.Chains.length by omega)
        simp [idx, this]
      have hlt : (0 : Int) < (s.Chains.length : Int) := by omega
      unfold sample_Add_l3
      refine loop_inr ?_
      unfold sample_Add_l3s
      simp only [hlt, decide_true, cond_true, h0', Option.bind_some, hr, hr4]
      rfl
  · have hb : (q != 0) = true := by rw [bne_iff_ne]; exact h0
    rw [hb]; rfl

theorem needs19_eq (s : api_Sample) (v : Int) (draws : List Int) (hl : s.Chains.length ≤ maxLen) (hc : ∀ c ∈ s.Chains, c.Links.length ≤ maxLen) (hd : draws.length ≤ maxLen) : sample_Needs s v draws = ref19_Needs s v draws := by
  obtain ⟨q, hq, hok⟩ := validate19_total s hl hc
  unfold sample_Needs ref19_Needs
  rw [← validate19_eq s hc, hq, Option.bind_some, Option.bind_some]
  by_cases h0 : q = 0
  · obtain ⟨h1, h2, h3⟩ := hok h0
    subst h0
    simp only [bne_self_eq_false, cond_false, Bool.false_or]
    cases hv : ref09_Value v with
    | true => rw [needs19_loop_eq s v draws hc hd]; rfl
    | false =>
      have hm := List.getElem_mem (show 0 < s.Chains.length by omega)
      obtain ⟨r, hr, hr4⟩ := add_range s.Chains[0] v draws 0 (h3 _ hm) hv
      have hn := needs_range s.Chains[0] v draws 0 (h3 _ hm) hv
      have h0' : idx s.Chains (0 : Int) = some s.Chains[0] := by
        have := get_some (show 0 < s.Chains.length by omega)
        simp [idx, this]
      have hlt : (0 : Int) < (s.Chains.length : Int) := by omega
      unfold sample_Needs_l3
      refine loop_inr ?_
      unfold sample_Needs_l3s
      simp only [hlt, decide_true, cond_true, h0', Option.bind_some, hn, hr, hr4]
      rfl
  · have hb : (q != 0) = true := by rw [bne_iff_ne]; exact h0
    rw [hb]; rfl

theorem add_pos (x : api_Chain) (v : Int) (draws : List Int) (at_ : Int) (hl : x.Links.length ≤ maxLen) (hd : draws.length ≤ maxLen) : ∃ r, chain_Add x v draws at_ = some r ∧ r.1.Links.length ≤ maxLen := by
  obtain ⟨r, h1, _⟩ := add_eq x v draws at_ hl hd
  have := add_len x v draws at_ hl hd h1
  exact ⟨r, h1, by rw [maxLen_eq]; omega⟩

theorem add19_total (s : api_Sample) (v : Int) (draws : List Int) (hl : s.Chains.length ≤ maxLen) (hc : ∀ c ∈ s.Chains, c.Links.length ≤ maxLen) (hd : draws.length ≤ maxLen) :
    ∃ r, sample_Add s v draws = some r ∧ r.1.Chains.length ≤ 16 ∧ ∀ c ∈ r.1.Chains, c.Links.length ≤ maxLen := by
  obtain ⟨q, hq, hok⟩ := validate19_total s hl hc
  unfold sample_Add
  rw [hq, Option.bind_some]
  by_cases h0 : q = 0
  · obtain ⟨h1, h2, h3⟩ := hok h0
    subst h0
    simp only [bne_self_eq_false, cond_false]
    unfold sample_Add_l3
    exact loop_ind (f := fun t : Int × Int × List api_Chain => sample_Add_l3s s v draws t.1 t.2.1 t.2.2) (fun t => ∃ k : Nat, t.2.1 = (k : Int) ∧ t.2.2.length = k ∧ k ≤ s.Chains.length ∧ ∀ c ∈ t.2.2, c.Links.length ≤ maxLen)
      (fun t => s.Chains.length - t.2.2.length) (fun r => r.1.Chains.length ≤ 16 ∧ ∀ c ∈ r.1.Chains, c.Links.length ≤ maxLen) (0, 0, []) ⟨0, rfl, rfl, Nat.zero_le _, by simp⟩ (by
        rintro ⟨a, _, l⟩ ⟨k, rfl, hkl, hk, hm⟩
        simp only at hkl hm ⊢
        unfold sample_Add_l3s
        by_cases hlt : k < s.Chains.length
        · obtain ⟨r, hr, hr2⟩ := add_pos s.Chains[k] v draws a (hc _ (List.getElem_mem hlt)) hd
          simp only [Int.ofNat_lt, hlt, decide_true, cond_true, idx_nat, get_some hlt, Option.bind_some, hr]
          by_cases he : r.2.2 = 0
          · left
            have hk2 : decide ((l.length + [r.1].length) * 56 ≤ 140737488355328) = true := by rw [decide_eq_true_eq, List.length_singleton]; omega
            refine ⟨(r.2.1, (k : Int) + 1, l ++ [r.1]), ?_, ⟨k + 1, by simp, by simp [hkl], hlt, fun c hcm => ?_⟩, by simp; omega⟩
            · simp only [he, bne_self_eq_false, cond_false, hk2, ck_true, succ_nat hlt hl]
            · rcases List.mem_append.1 hcm with h | h
              · exact hm c h
              · have : c = r.1 := by simpa using h
                rw [this]; exact hr2
          · right
            have hb : (r.2.2 != 0) = true := by rw [bne_iff_ne]; exact he
            simp only [hb, cond_true]
            exact ⟨_, rfl, by simp, by simp⟩
        · right
          have : ¬ ((k : Int) < (s.Chains.length : Int)) := by omega
          simp only [this, decide_false, cond_false]
          cases decide (a < (draws.length : Int)) with
          | true => exact ⟨_, rfl, by simp, by simp⟩
          | false => exact ⟨_, rfl, by show l.length ≤ 16; omega, hm⟩)
  · have hb : (q != 0) = true := by rw [bne_iff_ne]; exact h0
    rw [hb]
    exact ⟨_, rfl, by simp, by simp⟩

theorem needs19_total (s : api_Sample) (v : Int) (draws : List Int) (hl : s.Chains.length ≤ maxLen) (hc : ∀ c ∈ s.Chains, c.Links.length ≤ maxLen) (hd : draws.length ≤ maxLen) :
    ∃ r, sample_Needs s v draws = some r := by
  obtain ⟨q, hq, hok⟩ := validate19_total s hl hc
  unfold sample_Needs
  rw [hq, Option.bind_some]
  by_cases h0 : q = 0
  · obtain ⟨h1, h2, h3⟩ := hok h0
    subst h0
    simp only [bne_self_eq_false, cond_false]
    unfold sample_Needs_l3
    obtain ⟨r, hr, _⟩ := loop_ind (f := fun t : Int × Int => sample_Needs_l3s s v draws t.1 t.2) (fun t => ∃ k : Nat, t.2 = (k : Int) ∧ k ≤ s.Chains.length)
      (fun t => s.Chains.length - t.2.toNat) (fun _ => True) (0, 0) ⟨0, rfl, Nat.zero_le _⟩ (by
        rintro ⟨a, _⟩ ⟨k, rfl, hk⟩
        simp only
        unfold sample_Needs_l3s
        by_cases hlt : k < s.Chains.length
        · have hck := hc _ (List.getElem_mem hlt)
          obtain ⟨n, hn, _⟩ := needs_eq s.Chains[k] v draws a hck hd
          obtain ⟨r, hr, _⟩ := add_eq s.Chains[k] v draws a hck hd
          simp only [Int.ofNat_lt, hlt, decide_true, cond_true, idx_nat, get_some hlt, Option.bind_some, hr, hn]
          cases n.2 with
          | true => exact .inr ⟨_, rfl, trivial⟩
          | false =>
            simp only [cond_false]
            cases r.2.2 != 0 with
            | true => exact .inr ⟨_, rfl, trivial⟩
            | false => exact .inl ⟨_, rfl, ⟨k + 1, by rw [succ_nat hlt hl]; simp, hlt⟩, by rw [succ_nat hlt hl]; show s.Chains.length - ((k : Int) + 1).toNat < s.Chains.length - (k : Int).toNat; omega⟩
        · right
          have : ¬ ((k : Int) < (s.Chains.length : Int)) := by omega
          simp only [this, decide_false, cond_false]
          exact ⟨_, rfl, trivial⟩)
    exact ⟨r, hr⟩
  · have hb : (q != 0) = true := by rw [bne_iff_ne]; exact h0
    rw [hb]
    exact ⟨_, rfl⟩

theorem law19_SampleAdds_true (p0 : api_Sample) (p1 : Int) (p2 : List Int) (w0 : wf_api_Sample p0) (_ : wfI .i64 p1) (w2 : wfL (wfI .i64) p2) : law19_SampleAdds p0 p1 p2 = some true := by
  have hl : p0.Chains.length ≤ maxLen := w0.1
  have hc : ∀ c ∈ p0.Chains, c.Links.length ≤ maxLen := fun c h => (w0.2 c h).2.2.2.2.1
  obtain ⟨b, hb⟩ := few19 p0 hl
  obtain ⟨r, hr, hr2, hr3⟩ := add19_total p0 p1 p2 hl hc w2.1
  obtain ⟨n, hn⟩ := needs19_total p0 p1 p2 hl hc w2.1
  unfold law19_SampleAdds
  rw [hb, awake19, ← add19_eq p0 p1 p2 hl hc w2.1, ← needs19_eq p0 p1 p2 hl hc w2.1, hr, hn]
  cases b with
  | false => rfl
  | true => simp [same19_refl r.1 (by rw [maxLen_eq]; omega) hr3]

end Go.Win
