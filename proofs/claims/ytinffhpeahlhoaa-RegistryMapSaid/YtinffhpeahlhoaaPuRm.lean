/- Pu: chapter 26: a registry is a map. -/
import Derived.Test.YtinffhpeahlhoaaPuRg
set_option linter.unusedVariables false
set_option linter.unusedSimpArgs false
set_option linter.unnecessarySimpa false
set_option linter.unusedSectionVars false
namespace Go.Win
open Go.Vc Go.Dec

theorem asc_ext : ∀ {a b : List Int}, a.Pairwise (· < ·) → b.Pairwise (· < ·) → (∀ x, x ∈ a ↔ x ∈ b) → a = b := by
  intro a
  induction a with
  | nil =>
    intro b _ _ h
    cases b with
    | nil => rfl
    | cons y b => exact absurd ((h y).2 (by simp)) (by simp)
  | cons x a ih =>
    intro b ha hb h
    cases b with
    | nil => exact absurd ((h x).1 (by simp)) (by simp)
    | cons y b =>
      rw [List.pairwise_cons] at ha hb
      have hxy : x = y := by
        have h1 := (h x).1 (by simp)
        have h2 := (h y).2 (by simp)
        rw [List.mem_cons] at h1 h2
        rcases h1 with h1 | h1
        · exact h1
        · rcases h2 with h2 | h2
          · exact h2.symm
          · have := hb.1 x h1
            have := ha.1 y h2
            omega
      subst hxy
      rw [ih ha.2 hb.2]
      intro z
      have := h z
      rw [List.mem_cons, List.mem_cons] at this
      constructor
      · intro hz
        rcases this.1 (.inr hz) with h1 | h1
        · subst h1; exact absurd (ha.1 _ hz) (by omega)
        · exact h1
      · intro hz
        rcases this.2 (.inr hz) with h1 | h1
        · subst h1; exact absurd (hb.1 _ hz) (by omega)
        · exact h1

/-- The ids below k that are in. -/
def wantT (b : List Bool) (k : Nat) : List Int := List.map (fun j : Nat => (j : Int)) ((List.range k).filter fun j => b.getD j false)
theorem wantT_succ (b : List Bool) (k : Nat) : wantT b (k + 1) = wantT b k ++ (if b.getD k false = true then [(k : Int)] else []) := by
  unfold wantT
  rw [List.range_succ, List.filter_append, List.map_append]
  congr 1
  by_cases h : b.getD k false = true
  · rw [if_pos h, List.filter_cons_of_pos (by simpa using h)]; rfl
  · rw [if_neg h, List.filter_cons_of_neg (by simpa using h)]; rfl
theorem wantT_len (b : List Bool) (k : Nat) : (wantT b k).length ≤ k := by
  unfold wantT
  rw [List.length_map]
  have := List.length_filter_le (fun j => b.getD j false) (List.range k)
  rw [List.length_range] at this
  exact this
theorem wantT_mem (b : List Bool) (k : Nat) (x : Int) : x ∈ wantT b k ↔ 0 ≤ x ∧ x < k ∧ b.getD x.toNat false = true := by
  unfold wantT
  simp only [List.mem_map, List.mem_filter, List.mem_range]
  constructor
  · rintro ⟨j, ⟨h1, h2⟩, rfl⟩
    exact ⟨by omega, by omega, by simpa using h2⟩
  · rintro ⟨h1, h2, h3⟩
    exact ⟨x.toNat, ⟨by omega, h3⟩, by omega⟩
theorem wantT_asc (b : List Bool) (k : Nat) : (wantT b k).Pairwise (· < ·) := by
  unfold wantT
  rw [List.pairwise_map]
  refine List.Pairwise.imp ?_ (List.Pairwise.filter _ (List.pairwise_lt_range (n := k)))
  intro a c h
  omega

/-- The synopsis that all records have. -/
noncomputable def polyS : api_Synopsis := newS ⟨6, 0, 0, 0, 0, 0, 0, 0⟩ 0
theorem poly_cfg : cfgP ⟨6, 0, 0, 0, 0, 0, 0, 0⟩ := by unfold cfgP; simp
theorem polyS_ok : okSy polyS := newS_ok poly_cfg (by decide)
theorem polyS_wf : wfU_api_Synopsis polyS := newS_wf poly_cfg (by decide)

/-- The list holds the ids that are in. -/
structure Holds (l : List api_Record) (b : List Bool) (limit : Int) : Prop where
  len : b.length = 12
  ids : idsOf l = wantT b 12
  syn : ∀ r ∈ l, r.Synopsis = polyS
  lim : 1 ≤ limit ∧ limit ≤ 8
  few : (l.length : Int) ≤ limit

theorem ids_len (l : List api_Record) : (idsOf l).length = l.length := by simp [idsOf]
theorem ids_get {l : List api_Record} {i : Nat} (h : i < l.length) : (idsOf l)[i]'(by rw [ids_len]; exact h) = rid l i := by
  rw [rid_el, el_get h]
  simp [idsOf]

theorem Holds.rng {l : List api_Record} {b : List Bool} {limit : Int} (h : Holds l b limit) {i : Nat} (hi : i < l.length) : 0 ≤ rid l i ∧ rid l i < 12 := by
  have : rid l i ∈ idsOf l := by rw [← ids_get hi]; exact List.getElem_mem _
  rw [h.ids, wantT_mem] at this
  omega

theorem Holds.asc {l : List api_Record} {b : List Bool} {limit : Int} (h : Holds l b limit) : (idsOf l).Pairwise (· < ·) := by rw [h.ids]; exact wantT_asc b 12

theorem Holds.up {l : List api_Record} {b : List Bool} {limit : Int} (h : Holds l b limit) {i j : Nat} (hij : i < j) (hj : j < l.length) : rid l i < rid l j := by
  have := List.pairwise_iff_getElem.1 h.asc i j (by rw [ids_len]; omega) (by rw [ids_len]; exact hj) hij
  rw [ids_get (by omega), ids_get hj] at this
  exact this

theorem Holds.asc' {l : List api_Record} {b : List Bool} {limit : Int} (h : Holds l b limit) : Asc l := fun i hi => h.up (by omega) hi

theorem Holds.wf {l : List api_Record} {b : List Bool} {limit : Int} (h : Holds l b limit) : wfLU wfU_api_Record l := by
  refine ⟨by have := h.few; have := h.lim; omega, fun r hr => ⟨?_, ?_⟩⟩
  · obtain ⟨i, hi, e⟩ := mem_el hr
    have := h.rng hi
    rw [rid_el, e] at this
    simp [wfI, Lit.wf, IntKind.min, IntKind.max, IntKind.signed, IntKind.bits]
    omega
  · rw [h.syn r hr]; exact polyS_wf

theorem Holds.ok {l : List api_Record} {b : List Bool} {limit m : Int} (h : Holds l b limit) (h1 : limit ≤ m) (h2 : m ≤ 64) : okRg l m := by
  have hf := h.few
  have hl := h.lim
  refine ⟨⟨by omega, by omega⟩, fun i hi => ⟨?_, fun h1 => ?_, ?_⟩⟩
  · have := h.rng hi
    rw [rid_el] at this
    omega
  · have := h.up (show i - 1 < i by omega) hi
    exact this
  · rw [h.syn _ (el_mem hi)]; exact polyS_ok

/-- An id is there if it is in. -/
theorem Holds.has {l : List api_Record} {b : List Bool} {limit : Int} (h : Holds l b limit) {id : Int} (hid : 0 ≤ id ∧ id < 12) : hasR l id = b.getD id.toNat false := by
  have key : hasR l id = true ↔ id ∈ idsOf l := by
    unfold hasR
    simp only [Bool.and_eq_true, decide_eq_true_eq, beq_iff_eq]
    constructor
    · rintro ⟨h1, h2⟩
      rw [← h2, ← ids_get (by omega)]
      exact List.getElem_mem _
    · intro hm
      obtain ⟨i, hi, e⟩ := List.getElem_of_mem hm
      rw [ids_len] at hi
      rw [ids_get hi] at e
      have hc := cntB_iff h.asc' id l.length (Nat.le_refl _)
      have h1 : ¬ i < atR l id := fun hlt => by have := (hc i hi).2 hlt; omega
      have h2 : ¬ atR l id < i := fun hlt => by
        have h3 := h.up hlt hi
        have := (hc (atR l id) (by omega)).1 (by omega)
        exact absurd this (Nat.lt_irrefl _)
      have h3 : atR l id = i := by omega
      rw [h3]
      exact ⟨by omega, e⟩
  rw [Bool.eq_iff_iff, key, h.ids, wantT_mem]
  exact ⟨fun h => h.2.2, fun h => ⟨hid.1, by omega, h⟩⟩

theorem getD_set (b : List Bool) (i j : Nat) (v : Bool) (hi : i < b.length) : (b.set i v).getD j false = if i = j then v else b.getD j false := by
  rw [List.getD_eq_getElem?_getD, List.getD_eq_getElem?_getD, List.getElem?_set]
  split
  · rename_i h; subst h; rfl
  · rfl

theorem Holds.insert {l : List api_Record} {b : List Bool} {limit id : Int} (h : Holds l b limit) (hid : 0 ≤ id ∧ id < 12) (hn : b.getD id.toNat false = false) (hlen : (l.length : Int) < limit) :
    Holds (l.take (atR l id) ++ [⟨id, polyS⟩] ++ l.drop (atR l id)) (b.set id.toNat true) limit := by
  have hb := h.len
  have hc := cntB_iff h.asc' id l.length (Nat.le_refl _)
  have ha := atR_le l id
  have hnot : id ∉ idsOf l := by
    rw [h.ids, wantT_mem, hn]
    exact fun h => by cases h.2.2
  have lo : ∀ x ∈ idsOf (l.take (atR l id)), x < id := by
    intro x hx
    obtain ⟨r, hr, rfl⟩ := List.mem_map.1 hx
    obtain ⟨i, hi, e⟩ := List.getElem_of_mem hr
    rw [List.length_take] at hi
    rw [List.getElem_take] at e
    have := (hc i (by omega)).2 (show i < cntB l id l.length by unfold atR at hi; omega)
    rw [rid_el, el_get (by omega), e] at this
    exact this
  have hi' : ∀ x ∈ idsOf (l.drop (atR l id)), id < x := by
    intro x hx
    obtain ⟨r, hr, rfl⟩ := List.mem_map.1 hx
    obtain ⟨i, hi, e⟩ := List.getElem_of_mem hr
    rw [List.length_drop] at hi
    rw [List.getElem_drop] at e
    have h1 : ¬ rid l (atR l id + i) < id := fun hlt => by
      have := (hc (atR l id + i) (by omega)).1 hlt
      unfold atR at this
      omega
    rw [rid_el, el_get (by omega), e] at h1
    have h2 : r.ID ≠ id := fun e2 => hnot (by rw [← e2]; exact List.mem_map.2 ⟨r, List.mem_of_mem_drop hr, rfl⟩)
    omega
  have hids : idsOf (l.take (atR l id) ++ [⟨id, polyS⟩] ++ l.drop (atR l id)) = idsOf (l.take (atR l id)) ++ [id] ++ idsOf (l.drop (atR l id)) := by simp [idsOf]
  have hsplit : idsOf (l.take (atR l id)) ++ idsOf (l.drop (atR l id)) = idsOf l := by
    unfold idsOf
    rw [← List.map_append, List.take_append_drop]
  refine ⟨by rw [List.length_set]; exact hb, ?_, ?_, h.lim, ?_⟩
  · rw [hids]
    refine asc_ext ?_ (wantT_asc _ _) ?_
    · have hp := h.asc
      rw [← hsplit, List.pairwise_append] at hp
      rw [List.pairwise_append, List.pairwise_append]
      refine ⟨⟨hp.1, by simp, fun x hx y hy => ?_⟩, hp.2.1, fun x hx y hy => ?_⟩
      · rw [List.mem_singleton] at hy; subst hy; exact lo x hx
      · rcases List.mem_append.1 hx with hx | hx
        · exact hp.2.2 x hx y hy
        · rw [List.mem_singleton] at hx; subst hx; exact hi' y hy
    · intro x
      have hm : x ∈ idsOf (l.take (atR l id)) ++ [id] ++ idsOf (l.drop (atR l id)) ↔ x = id ∨ x ∈ idsOf l := by
        rw [← hsplit]
        simp only [List.mem_append, List.mem_singleton]
        grind
      rw [hm, h.ids, wantT_mem, wantT_mem, getD_set _ _ _ _ (by omega)]
      constructor
      · rintro (rfl | ⟨h1, h2, h3⟩)
        · exact ⟨hid.1, hid.2, by rw [if_pos rfl]⟩
        · refine ⟨h1, h2, ?_⟩
          split
          · rfl
          · exact h3
      · rintro ⟨h1, h2, h3⟩
        by_cases e : x = id
        · exact .inl e
        · right
          rw [if_neg (by omega)] at h3
          exact ⟨h1, h2, h3⟩
  · intro r hr
    simp only [List.mem_append, List.mem_singleton] at hr
    rcases hr with (hr | rfl) | hr
    · exact h.syn r (List.mem_of_mem_take hr)
    · rfl
    · exact h.syn r (List.mem_of_mem_drop hr)
  · simp only [List.length_append, List.length_take, List.length_drop, List.length_cons, List.length_nil]
    omega

theorem Holds.remove {l : List api_Record} {b : List Bool} {limit id : Int} (h : Holds l b limit) (hid : 0 ≤ id ∧ id < 12) (hy : b.getD id.toNat false = true) :
    Holds (l.take (atR l id) ++ l.drop (atR l id + 1)) (b.set id.toNat false) limit := by
  have hb := h.len
  have hh : hasR l id = true := by rw [h.has hid]; exact hy
  unfold hasR at hh
  simp only [Bool.and_eq_true, decide_eq_true_eq, beq_iff_eq] at hh
  have hlt : atR l id < l.length := by omega
  have hids : idsOf (l.take (atR l id) ++ l.drop (atR l id + 1)) = idsOf (l.take (atR l id)) ++ idsOf (l.drop (atR l id + 1)) := by simp [idsOf]
  have hsplit : idsOf l = idsOf (l.take (atR l id)) ++ (id :: idsOf (l.drop (atR l id + 1))) := by
    have h1 : l = l.take (atR l id) ++ l.drop (atR l id) := (List.take_append_drop _ _).symm
    have h2 : l.drop (atR l id) = el l (atR l id) :: l.drop (atR l id + 1) := by rw [List.drop_eq_getElem_cons hlt, el_get hlt]
    have h3 : (el l (atR l id)).ID = id := hh.2
    rw [h2] at h1
    have := congrArg idsOf h1
    rw [this]
    simp [idsOf, h3]
  have hp := h.asc
  rw [hsplit, List.pairwise_append] at hp
  have hp2 := List.pairwise_cons.1 hp.2.1
  refine ⟨by rw [List.length_set]; exact hb, ?_, ?_, h.lim, ?_⟩
  · rw [hids]
    refine asc_ext ?_ (wantT_asc _ _) ?_
    · rw [List.pairwise_append]
      exact ⟨hp.1, hp2.2, fun x hx y hy => hp.2.2 x hx y (List.mem_cons_of_mem _ hy)⟩
    · intro x
      have hne : x ∈ idsOf (l.take (atR l id)) ++ idsOf (l.drop (atR l id + 1)) → x ≠ id := by
        intro hx e
        rcases List.mem_append.1 hx with hx | hx
        · have := hp.2.2 x hx id (by simp); omega
        · have := hp2.1 x hx; omega
      have hm : x ∈ idsOf (l.take (atR l id)) ++ idsOf (l.drop (atR l id + 1)) ↔ x ≠ id ∧ x ∈ idsOf l := by
        rw [hsplit]
        constructor
        · intro hx
          refine ⟨hne hx, ?_⟩
          rcases List.mem_append.1 hx with hx | hx
          · exact List.mem_append.2 (.inl hx)
          · exact List.mem_append.2 (.inr (List.mem_cons_of_mem _ hx))
        · rintro ⟨h1, h2⟩
          rcases List.mem_append.1 h2 with h2 | h2
          · exact List.mem_append.2 (.inl h2)
          · rcases List.mem_cons.1 h2 with h2 | h2
            · exact absurd h2 h1
            · exact List.mem_append.2 (.inr h2)
      rw [hm, h.ids, wantT_mem, wantT_mem, getD_set _ _ _ _ (by omega)]
      constructor
      · rintro ⟨h0, h1, h2, h3⟩
        exact ⟨h1, h2, by rw [if_neg (by omega)]; exact h3⟩
      · rintro ⟨h1, h2, h3⟩
        by_cases e : x = id
        · rw [if_pos (by omega)] at h3; cases h3
        · rw [if_neg (by omega)] at h3
          exact ⟨e, h1, h2, h3⟩
  · intro r hr
    rcases List.mem_append.1 hr with hr | hr
    · exact h.syn r (List.mem_of_mem_take hr)
    · exact h.syn r (List.mem_of_mem_drop hr)
  · have := h.few
    simp only [List.length_append, List.length_take, List.length_drop]
    omega

theorem idx_bool {b : List Bool} {i : Nat} (h : i < b.length) : idx b (i : Int) = some (b.getD i false) := by
  rw [idx_nat, List.getElem?_eq_getElem h]
  simp [List.getD, List.getElem?_eq_getElem h]

theorem map_tail (y limit3 : Int) (l : List api_Record) (b : List Bool) (i : Int) (e : w64 (1 + y) = limit3) (h : Holds l b limit3) (hi : w64 (i + 1) = i + 1) :
    law26_RegistryMap_j11 y i l b = some (.inl (l, b, i + 1)) := by
  unfold law26_RegistryMap_j11 law26_RegistryMap_l17
  have hb := h.len
  have H := loop_st (f := fun s : List Int × Int => law26_RegistryMap_l17s y i l b s.1 s.2) (fun k => (wantT b k, (k : Int))) 0 12 (Nat.zero_le _) (fun _ => False) (.inr false) (some (.inl (l, b, i + 1)))
    (fun k _ hk _ => by
      refine ⟨fun h => h.elim, fun _ => ?_⟩
      simp only []
      unfold law26_RegistryMap_l17s
      have es : w64 ((k : Int) + 1) = ((k + 1 : Nat) : Int) := by rw [w64_id] <;> omega
      have hl := wantT_len b k
      rw [decide_eq_true (by omega : (k : Int) < (b.length : Int)), cond_true, idx_bool (by omega), Option.bind_some, Option.bind_some, es, wantT_succ]
      cases hv : b.getD k false with
      | true =>
        rw [cond_true, decide_eq_true (by simp only [List.length_cons, List.length_nil]; omega), ck_true, if_pos rfl]
      | false => rw [cond_false, if_neg (by decide), List.append_nil])
    (fun _ => by
      simp only []
      unfold law26_RegistryMap_l17s
      rw [decide_eq_false (by omega), cond_false, ids_loop l h.wf.1, Option.bind_some, h.ids, numbers_refl _ (by have := wantT_len b 12; rw [maxLen_eq]; omega), Option.bind_some, e, (registry_valid l limit3 h.wf).1,
        bOf_t (h.ok (Int.le_refl _) (by have := h.lim; omega)), hi]
      rfl)
  exact H.2 (fun _ _ _ h => h)

theorem map_round (p0 : List Int) (y limit3 : Int) (i : Nat) (hi : i < p0.length) (hi2 : i < 60) (l : List api_Record) (b : List Bool) (e : w64 (1 + y) = limit3) (h : Holds l b limit3) (id : Int) (hid : 0 ≤ id ∧ id < 12) :
    ∃ l' b', law26_RegistryMap_l7 p0 y (polyS, 0) id l b (i : Int) 0 0 = some (.inl (l', b', ((i + 1 : Nat) : Int))) ∧ Holds l' b' limit3 := by
  have hb := h.len
  have hm : law26_RegistryMap_l7 p0 y (polyS, 0) id l b (i : Int) 0 0 =
      (Option.bind (idx p0 (i : Int)) fun x18_2 =>
        Option.bind (made_Mod x18_2 (3:Int)) fun y18_4 =>
        cond (y18_4 == (0:Int)) (
          Option.bind (registry_Remove l id) fun y19_2 =>
          Option.bind (idx b id) fun x20_4 =>
          Option.bind (idx b id) fun x20_5 =>
          cond (!((y19_2.2 == (0:Int)) == x20_5)) (
            some (.inr false)) <|
          cond (y19_2.2 == (0:Int)) (
            Option.bind (idx b id) fun x23_4 =>
            Option.bind (idx b id) fun x23_5 =>
            law26_RegistryMap_j11 y (i : Int) y19_2.1 (b.set (id).toNat false)) <|
          law26_RegistryMap_j11 y (i : Int) l b) <|
        Option.bind (registry_Insert l (w64 ((1:Int) + y)) (api_Record.mk id polyS)) fun y24_5 =>
        Option.bind (idx b id) fun x25_4 =>
        Option.bind (idx b id) fun x25_5 =>
        Option.bind (gd (!(!((y24_5.2 == (10:Int)) == x25_5))) (idx b id)) fun x25_10 =>
        Option.bind (gd (!(!((y24_5.2 == (10:Int)) == x25_5))) (idx b id)) fun x25_11 =>
        cond ((!((y24_5.2 == (10:Int)) == x25_5)) || ((!x25_11) && (!((y24_5.2 == (0:Int)) == (decide (((wantT b 12).length : Int) < (w64 ((1:Int) + y)))))))) (
          some (.inr false)) <|
        cond (y24_5.2 == (0:Int)) (
          Option.bind (idx b id) fun x28_4 =>
          Option.bind (idx b id) fun x28_5 =>
          law26_RegistryMap_j11 y (i : Int) y24_5.1 (b.set (id).toNat true)) <|
        law26_RegistryMap_j11 y (i : Int) l b) := by
    unfold law26_RegistryMap_l7
    have H := loop_st (f := fun s : Int × Int => law26_RegistryMap_l7s p0 y (polyS, 0) id l b (i : Int) s.1 s.2) (fun k => (((wantT b k).length : Int), (k : Int))) 0 12 (Nat.zero_le _) (fun _ => False) (.inr false) _
      (fun k _ hk _ => by
        refine ⟨fun h => h.elim, fun _ => ?_⟩
        simp only []
        unfold law26_RegistryMap_l7s
        have es : w64 ((k : Int) + 1) = ((k + 1 : Nat) : Int) := by rw [w64_id] <;> omega
        have hl := wantT_len b k
        rw [decide_eq_true (by omega : (k : Int) < (b.length : Int)), cond_true, idx_bool (by omega), Option.bind_some, Option.bind_some, es, wantT_succ]
        cases hv : b.getD k false with
        | true =>
          have es2 : w64 (((wantT b k).length : Int) + 1) = (((wantT b k).length + 1 : Nat) : Int) := by rw [w64_id] <;> omega
          rw [cond_true, es2, if_pos rfl, List.length_append]
          rfl
        | false => rw [cond_false, if_neg (by decide), List.append_nil])
      (fun _ => by
        simp only []
        unfold law26_RegistryMap_l7s
        rw [decide_eq_false (by omega), cond_false])
    exact H.2 (fun _ _ _ h => h)
  have hidx : idx b id = some (b.getD id.toNat false) := by
    have := idx_bool (b := b) (i := id.toNat) (by omega)
    rw [← this]
    congr 1
    omega
  have hi1 : w64 ((i : Int) + 1) = (i : Int) + 1 := by rw [w64_id] <;> omega
  have hlen : (wantT b 12).length = l.length := by rw [← h.ids, ids_len]
  obtain ⟨q, hq, _, _⟩ := mod_ok (el p0 i) (n := 3) (by decide) (by decide)
  rw [hm, el_idx hi, Option.bind_some, hq, Option.bind_some, hidx, e]
  have ec : ((i : Int) + 1) = ((i + 1 : Nat) : Int) := rfl
  cases hq0 : (q == 0) with
  | true =>
    rw [cond_true, (remove_eq l id h.wf).1, Option.bind_some, Option.bind_some]
    unfold remS
    rw [if_neg (fun hn => hn (h.ok (by have := h.lim; omega) (by decide)))]
    cases hv : b.getD id.toNat false with
    | true =>
      rw [if_pos (by rw [h.has hid]; exact hv)]
      refine ⟨_, _, ?_, h.remove hid hv⟩
      simp only [Option.bind_some, beq_self_eq_true, Bool.not_true, cond_false, cond_true]
      rw [map_tail y limit3 _ _ (i : Int) e (h.remove hid hv) hi1, ec]
    | false =>
      rw [if_neg (by rw [h.has hid, hv]; decide)]
      refine ⟨l, b, ?_, h⟩
      simp only [Option.bind_some, show ((11 : Int) == 0) = false from rfl, beq_self_eq_true, Bool.not_true, cond_false]
      rw [map_tail y limit3 _ _ (i : Int) e h hi1, ec]
  | false =>
    have hwr : wfU_api_Record ⟨id, polyS⟩ := ⟨by
      simp [wfI, Lit.wf, IntKind.min, IntKind.max, IntKind.signed, IntKind.bits]
      omega, polyS_wf⟩
    rw [cond_false, (insert_eq l limit3 ⟨id, polyS⟩ h.wf hwr).1, Option.bind_some, Option.bind_some]
    unfold insS
    rw [if_neg (fun hn => hn ⟨h.ok (Int.le_refl _) (by have := h.lim; omega), polyS_ok⟩), if_neg (show ¬ (id < 0 ∨ id > 1048576) by omega)]
    cases hv : b.getD id.toNat false with
    | true =>
      rw [if_pos (show hasR l id = true by rw [h.has hid]; exact hv)]
      refine ⟨l, b, ?_, h⟩
      simp only [Option.bind_some, beq_self_eq_true, Bool.not_true, Bool.not_false, gd_true, Bool.false_and, Bool.or_false, cond_false, show ((10 : Int) == 0) = false from rfl]
      rw [map_tail y limit3 _ _ (i : Int) e h hi1, ec]
    | false =>
      rw [if_neg (show ¬ hasR l id = true by rw [h.has hid, hv]; decide), hlen]
      by_cases hL : (l.length : Int) = limit3
      · rw [if_pos hL]
        refine ⟨l, b, ?_, h⟩
        have hd : decide ((l.length : Int) < limit3) = false := decide_eq_false (by omega)
        simp only [Option.bind_some, show ((5 : Int) == 10) = false from rfl, show ((5 : Int) == 0) = false from rfl, hd, beq_self_eq_true, Bool.not_true, Bool.not_false, gd_true, Bool.and_false, Bool.or_false, cond_false]
        rw [map_tail y limit3 _ _ (i : Int) e h hi1, ec]
      · have hlt : (l.length : Int) < limit3 := by have := h.few; omega
        rw [if_neg hL]
        refine ⟨_, _, ?_, h.insert hid hv hlt⟩
        have hd : decide ((l.length : Int) < limit3) = true := decide_eq_true hlt
        simp only [Option.bind_some, show ((0 : Int) == 10) = false from rfl, hd, beq_self_eq_true, Bool.not_true, Bool.not_false, gd_true, Bool.and_false, Bool.or_false, cond_false, cond_true]
        rw [map_tail y limit3 _ _ (i : Int) e (h.insert hid hv hlt) hi1, ec]

theorem law26_RegistryMap_true (p0 : List Int) (p1 : Int) (_ : wfL (wfI .i64) p0) (_ : wfI .i64 p1) : law26_RegistryMap p0 p1 = some true := by
  unfold law26_RegistryMap
  have hm : ∃ y, made_Int p1 8 = some y ∧ 0 ≤ y ∧ y < 8 := by
    unfold made_Int
    obtain ⟨r, h1, h2, h3⟩ := mod_ok p1 (n := 8) (by decide) (by decide)
    exact ⟨r, by rw [h1]; rfl, h2, h3⟩
  obtain ⟨y, e1, y0, y8⟩ := hm
  have e2 : ref25_New ⟨6, 0, 0, 0, 0, 0, 0, 0⟩ 0 = some (polyS, 0) := (new_eq poly_cfg (by decide)).2
  have e3 : (decide (0 ≤ (12:Int) ∧ (12:Int) ≤ (12:Int) ∧ (12:Int) * 1 ≤ 140737488355328 ∧ (12:Int) ≤ 140737488355328)) = true := by decide
  rw [e1, Option.bind_some, e2, Option.bind_some, bne_self_eq_false, cond_false, e3, ck_true]
  have e : w64 (1 + y) = 1 + y := by rw [w64_id] <;> omega
  unfold law26_RegistryMap_l3
  obtain ⟨r, hr, hQ⟩ := loop_ind (f := fun s : List api_Record × List Bool × Int => law26_RegistryMap_l3s p0 y (polyS, 0) s.1 s.2.1 s.2.2)
    (fun s => ∃ i : Nat, s.2.2 = (i : Int) ∧ i ≤ 60 ∧ Holds s.1 s.2.1 (1 + y)) (fun s => (60 - s.2.2).toNat) (fun r => r = true)
    ([], List.replicate ((12:Int)).toNat false, 0)
    ⟨0, rfl, by omega, rfl, rfl, fun r hr => (by cases hr), by omega, by show (0 : Int) ≤ 1 + y; omega⟩
    (by
      rintro ⟨l, b, i'⟩ ⟨i, hi, h60, h⟩
      simp only [] at hi h
      subst hi
      simp only []
      unfold law26_RegistryMap_l3s
      by_cases hlt : i < p0.length ∧ i < 60
      · left
        have ec : ((decide ((i : Int) < (p0.length : Int))) && (decide ((i : Int) < (60:Int)))) = true := by simp; omega
        obtain ⟨id, hq, q0, q1⟩ := mod_ok (w64 (Int.tdiv (el p0 i) 3)) (n := 12) (by decide) (by decide)
        obtain ⟨l', b', h1, h2⟩ := map_round p0 y (1 + y) i hlt.1 hlt.2 l b e h id ⟨q0, q1⟩
        refine ⟨(l', b', ((i + 1 : Nat) : Int)), ?_, ⟨i + 1, rfl, by omega, h2⟩, by simp only []; omega⟩
        rw [ec, cond_true, el_idx hlt.1, Option.bind_some, hq, Option.bind_some, h1]
      · right
        have ec : ((decide ((i : Int) < (p0.length : Int))) && (decide ((i : Int) < (60:Int)))) = false := by
          rw [Bool.eq_false_iff]; simp only [Bool.and_eq_true, decide_eq_true_eq, Ne]; omega
        refine ⟨true, ?_, rfl⟩
        rw [ec, cond_false, awake26]
        rfl)
  rw [hr, hQ]

end Go.Win

