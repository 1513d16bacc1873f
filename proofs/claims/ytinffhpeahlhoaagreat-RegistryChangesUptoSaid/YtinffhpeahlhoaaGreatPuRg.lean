/- Pu: chapter 26: registries. -/
import Derived.Test.YtinffhpeahlhoaaGreatPuSyV
import Derived.Test.YtinffhpeahlhoaaGreatPuFind
set_option linter.unusedVariables false
set_option linter.unusedSimpArgs false
set_option linter.unnecessarySimpa false
set_option linter.unusedSectionVars false
namespace Go.Win
open Go.Vc Go.Dec

/-- Record i is in order. -/
def okRec (l : List api_Record) (i : Nat) : Prop := (0 ≤ (el l i).ID ∧ (el l i).ID ≤ 1048576) ∧ (1 ≤ i → (el l (i - 1)).ID < (el l i).ID) ∧ okSy (el l i).Synopsis
def okRg (l : List api_Record) (limit : Int) : Prop := ((1 ≤ limit ∧ limit ≤ 64) ∧ (l.length : Int) ≤ limit) ∧ ∀ i, i < l.length → okRec l i

theorem wfR_syn {l : List api_Record} (w : wfLU wfU_api_Record l) {i : Nat} (hi : i < l.length) : wfU_api_Synopsis (el l i).Synopsis := (w.2 _ (el_mem hi)).2

theorem rec_step {l : List api_Record} (hl : l.length ≤ maxLen) {i : Nat} (hi : i < l.length) (V : api_Synopsis → Option Int) (hV : V (el l i).Synopsis = some (vOf (okSy (el l i).Synopsis))) :
    (¬ okRec l i → (cond (decide ((i : Int) < (l.length : Int))) (
      Option.bind (idx l (i : Int)) fun x5_1 =>
      Option.bind (gd ((!((decide (x5_1.ID < (0:Int))) || (decide (x5_1.ID > (1048576:Int))))) && (decide ((i : Int) > (0:Int)))) (idx l (w64 ((i : Int) - (1:Int))))) fun x6_15 =>
      Option.bind (gd (!(((decide (x5_1.ID < (0:Int))) || (decide (x5_1.ID > (1048576:Int)))) || ((decide ((i : Int) > (0:Int))) && (decide (x6_15.ID ≥ x5_1.ID))))) (V x5_1.Synopsis)) fun y6_26 =>
      cond ((((decide (x5_1.ID < (0:Int))) || (decide (x5_1.ID > (1048576:Int)))) || ((decide ((i : Int) > (0:Int))) && (decide (x6_15.ID ≥ x5_1.ID)))) || (y6_26 != (0:Int))) (
        some (.inr false)) <|
      some (.inl (w64 ((i : Int) + (1:Int))))) (Option.map Sum.inr (some true)) : Option (Int ⊕ Bool)) = some (.inr false)) ∧
    (¬ ¬ okRec l i → (cond (decide ((i : Int) < (l.length : Int))) (
      Option.bind (idx l (i : Int)) fun x5_1 =>
      Option.bind (gd ((!((decide (x5_1.ID < (0:Int))) || (decide (x5_1.ID > (1048576:Int))))) && (decide ((i : Int) > (0:Int)))) (idx l (w64 ((i : Int) - (1:Int))))) fun x6_15 =>
      Option.bind (gd (!(((decide (x5_1.ID < (0:Int))) || (decide (x5_1.ID > (1048576:Int)))) || ((decide ((i : Int) > (0:Int))) && (decide (x6_15.ID ≥ x5_1.ID))))) (V x5_1.Synopsis)) fun y6_26 =>
      cond ((((decide (x5_1.ID < (0:Int))) || (decide (x5_1.ID > (1048576:Int)))) || ((decide ((i : Int) > (0:Int))) && (decide (x6_15.ID ≥ x5_1.ID)))) || (y6_26 != (0:Int))) (
        some (.inr false)) <|
      some (.inl (w64 ((i : Int) + (1:Int))))) (Option.map Sum.inr (some true)) : Option (Int ⊕ Bool)) = some (.inl ((i + 1 : Nat) : Int))) := by
  rw [decide_eq_true (by omega : (i : Int) < (l.length : Int)), cond_true, el_idx hi, Option.bind_some, succW hi hl, hV]
  by_cases g1 : 0 ≤ (el l i).ID ∧ (el l i).ID ≤ 1048576
  · have e1 : (decide ((el l i).ID < 0) || decide ((el l i).ID > 1048576)) = false := by
      rw [Bool.eq_false_iff]; simp only [Bool.or_eq_true, decide_eq_true_eq, Ne]; omega
    rw [e1]
    simp only [Bool.not_false, Bool.true_and, Bool.false_or]
    rcases i with _ | i
    · have e4 : decide (((0 : Nat) : Int) > 0) = false := rfl
      rw [e4]
      simp only [gd_false, Option.bind_some, Bool.false_and, Bool.not_false, gd_true, Bool.false_or]
      refine step_iff ?_
      rw [vOf_bne]
      unfold okRec
      exact ⟨fun h h2 => h h2.2.2, fun h h2 => h ⟨g1, fun h3 => absurd h3 (by decide), h2⟩⟩
    · have e4 : decide (((i + 1 : Nat) : Int) > 0) = true := decide_eq_true (by omega)
      rw [e4, predW (by omega) (Nat.le_of_lt hi) hl, Nat.add_sub_cancel, el_idx (by omega)]
      simp only [gd_true, Option.bind_some, Bool.true_and]
      by_cases g2 : (el l i).ID ≥ (el l (i + 1)).ID
      · rw [decide_eq_true g2]
        simp only [Bool.not_true, gd_false, Option.bind_some, Bool.true_or, cond_true]
        refine ⟨fun _ => trivial, fun h => absurd (fun h2 => ?_) h⟩
        have := h2.2.1 (by omega)
        rw [Nat.add_sub_cancel] at this
        omega
      · rw [decide_eq_false g2]
        simp only [Bool.not_false, gd_true, Option.bind_some, Bool.false_or]
        refine step_iff ?_
        rw [vOf_bne]
        unfold okRec
        exact ⟨fun h h2 => h h2.2.2, fun h h2 => h ⟨g1, fun _ => by rw [Nat.add_sub_cancel]; omega, h2⟩⟩
  · have e1 : (decide ((el l i).ID < 0) || decide ((el l i).ID > 1048576)) = true := by
      simp only [Bool.or_eq_true, decide_eq_true_eq]; omega
    rw [e1]
    simp only [Bool.not_true, Bool.false_and, gd_false, Option.bind_some, Bool.true_or, cond_true]
    exact ⟨fun _ => trivial, fun h => absurd (fun h2 => g1 h2.1) h⟩

theorem registry_valid (l : List api_Record) (limit : Int) (w : wfLU wfU_api_Record l) : registry_Valid l limit = some (bOf (okRg l limit)) ∧ ref26_Valid l limit = some (bOf (okRg l limit)) := by
  have hl := len_max w.1
  unfold registry_Valid ref26_Valid
  by_cases h1 : (1 ≤ limit ∧ limit ≤ 64) ∧ (l.length : Int) ≤ limit
  · have e : ((decide (limit < (1:Int)) || decide (limit > (64:Int))) || decide ((l.length : Int) > limit)) = false := by
      rw [Bool.eq_false_iff]; simp only [Bool.or_eq_true, decide_eq_true_eq, Ne]; omega
    rw [e, cond_false, cond_false]
    have H1 := loop_prop (f := fun s : Int => registry_Valid_l3s l s) l.length (fun i => ¬ okRec l i) false (some true)
      (fun i hi _ => rec_step hl hi synopsis_Validate (synopsis_validate _ (wfR_syn w hi)).1)
      (fun _ => by
        unfold registry_Valid_l3s
        rw [decide_eq_false (Int.lt_irrefl _), cond_false])
    have H2 := loop_prop (f := fun s : Int => ref26_Valid_l3s l s) l.length (fun i => ¬ okRec l i) false (some true)
      (fun i hi _ => rec_step hl hi ref25_Validate (synopsis_validate _ (wfR_syn w hi)).2)
      (fun _ => by
        unfold ref26_Valid_l3s
        rw [decide_eq_false (Int.lt_irrefl _), cond_false])
    unfold registry_Valid_l3 ref26_Valid_l3
    by_cases h2 : ∀ i, i < l.length → okRec l i
    · rw [H1.2 fun i hi hn => hn (h2 i hi), H2.2 fun i hi hn => hn (h2 i hi), bOf_t ⟨h1, h2⟩]
      exact ⟨rfl, rfl⟩
    · rw [H1.1 (not_all h2), H2.1 (not_all h2), bOf_f fun h => h2 h.2]
      exact ⟨rfl, rfl⟩
  · have e : ((decide (limit < (1:Int)) || decide (limit > (64:Int))) || decide ((l.length : Int) > limit)) = true := by
      simp only [Bool.or_eq_true, decide_eq_true_eq]; omega
    rw [e, cond_true, cond_true, bOf_f fun h => h1 h.1]
    exact ⟨rfl, rfl⟩

theorem rid_el (l : List api_Record) (i : Nat) : rid l i = (el l i).ID := rfl

theorem okRg_asc {l : List api_Record} {limit : Int} (h : okRg l limit) : Asc l := by
  intro i hi
  have := (h.2 (i + 1) hi).2.1 (by omega)
  rw [Nat.add_sub_cancel] at this
  rw [rid_el, rid_el]
  exact this

def idsOf (l : List api_Record) : List Int := l.map (·.ID)
theorem ids_eq : ref26_IDs = registry_IDs := rfl

/-- The place of an id. -/
def atR (l : List api_Record) (id : Int) : Nat := cntB l id l.length
theorem atR_le (l : List api_Record) (id : Int) : atR l id ≤ l.length := cntB_le l id _
def hasR (l : List api_Record) (id : Int) : Bool := decide ((atR l id : Int) < (l.length : Int)) && (rid l (atR l id) == id)
theorem found_eq (l : List api_Record) (id : Int) : foundAt l id (cntB l id l.length) = ((atR l id : Int), hasR l id) := rfl

open Classical in
noncomputable def insS (l : List api_Record) (limit : Int) (r : api_Record) : List api_Record × Int :=
  if ¬ (okRg l limit ∧ okSy r.Synopsis) then ([], 2) else if r.ID < 0 ∨ r.ID > 1048576 then ([], 1) else if hasR l r.ID = true then ([], 10) else if (l.length : Int) = limit then ([], 5) else
  (l.take (atR l r.ID) ++ [r] ++ l.drop (atR l r.ID), 0)
open Classical in
noncomputable def remS (l : List api_Record) (id : Int) : List api_Record × Int :=
  if ¬ okRg l 64 then ([], 2) else if hasR l id = true then (l.take (atR l id) ++ l.drop (atR l id + 1), 0) else ([], 11)
open Classical in
noncomputable def repS (l : List api_Record) (r : api_Record) : List api_Record × Int :=
  if ¬ (okRg l 64 ∧ okSy r.Synopsis) then ([], 2) else if hasR l r.ID = true then (l.set (atR l r.ID) r, 0) else ([], 11)

theorem insert_eq (l : List api_Record) (limit : Int) (r : api_Record) (w : wfLU wfU_api_Record l) (wr : wfU_api_Record r) : registry_Insert l limit r = some (insS l limit r) ∧ ref26_Insert l limit r = some (insS l limit r) := by
  obtain ⟨v1, v2⟩ := registry_valid l limit w
  obtain ⟨s1, s2⟩ := synopsis_validate r.Synopsis wr.2
  unfold registry_Insert ref26_Insert
  rw [v1, v2, s1, s2]
  by_cases h1 : okRg l limit
  · rw [bOf_t h1]
    simp only [Option.bind_some, Bool.not_true, Bool.not_false, gd_true, Bool.false_or]
    by_cases h2 : okSy r.Synopsis
    · rw [vOf_t h2, bne_self_eq_false, cond_false, cond_false]
      by_cases h3 : r.ID < 0 ∨ r.ID > 1048576
      · have e : (decide (r.ID < 0) || decide (r.ID > 1048576)) = true := by simp only [Bool.or_eq_true, decide_eq_true_eq]; exact h3
        have e' : insS l limit r = ([], 1) := by unfold insS; rw [if_neg (fun h => h ⟨h1, h2⟩), if_pos h3]
        rw [e, e']; exact ⟨rfl, rfl⟩
      · have e : (decide (r.ID < 0) || decide (r.ID > 1048576)) = false := by rw [Bool.eq_false_iff]; simp only [Bool.or_eq_true, decide_eq_true_eq, Ne]; exact h3
        have hlen := h1.1
        rw [e, cond_false, cond_false, find_prog l r.ID (by omega) (okRg_asc h1), find26 l r.ID (len_max w.1), found_eq]
        simp only [Option.bind_some]
        cases h4 : hasR l r.ID with
        | true =>
          have e' : insS l limit r = ([], 10) := by unfold insS; rw [if_neg (fun h => h ⟨h1, h2⟩), if_neg h3, if_pos h4]
          rw [e']; exact ⟨rfl, rfl⟩
        | false =>
          simp only [cond_false]
          by_cases h5 : (l.length : Int) = limit
          · have e' : insS l limit r = ([], 5) := by unfold insS; rw [if_neg (fun h => h ⟨h1, h2⟩), if_neg h3, if_neg (by rw [h4]; decide), if_pos h5]
            rw [h5, beq_self_eq_true, e']; exact ⟨rfl, rfl⟩
          · have e' : insS l limit r = (l.take (atR l r.ID) ++ [r] ++ l.drop (atR l r.ID), 0) := by unfold insS; rw [if_neg (fun h => h ⟨h1, h2⟩), if_neg h3, if_neg (by rw [h4]; decide), if_neg h5]
            have e5 : ((l.length : Int) == limit) = false := beq_eq_false_iff_ne.2 h5
            have ha := atR_le l r.ID
            rw [e5, e']
            simp only [cond_false]
            simp only [Int.toNat_natCast, List.nil_append, List.length_nil, List.length_append, List.length_take, List.length_drop, List.length_cons]
            have k1 : decide (0 ≤ (atR l r.ID : Int) ∧ (atR l r.ID : Int) ≤ (l.length : Int)) = true := decide_eq_true (by omega)
            have k2 : ∀ n : Nat, n ≤ 1000 → decide (n * 640 ≤ 140737488355328) = true := fun n hn => decide_eq_true (by omega)
            rw [k1]
            repeat rw [k2 _ (by omega)]
            exact ⟨rfl, rfl⟩
    · have e' : insS l limit r = ([], 2) := by unfold insS; rw [if_pos fun h => h2 h.2]
      rw [vOf_f h2, e']; exact ⟨rfl, rfl⟩
  · have e' : insS l limit r = ([], 2) := by unfold insS; rw [if_pos fun h => h1 h.1]
    rw [bOf_f h1, e']; exact ⟨rfl, rfl⟩

theorem remove_eq (l : List api_Record) (id : Int) (w : wfLU wfU_api_Record l) : registry_Remove l id = some (remS l id) ∧ ref26_Remove l id = some (remS l id) := by
  obtain ⟨v1, v2⟩ := registry_valid l 64 w
  unfold registry_Remove ref26_Remove
  rw [v1, v2]
  by_cases h1 : okRg l 64
  · rw [bOf_t h1]
    have hlen := h1.1
    simp only [Option.bind_some, Bool.not_true, cond_false]
    rw [find_prog l id (by omega) (okRg_asc h1), find26 l id (len_max w.1), found_eq]
    simp only [Option.bind_some]
    cases h4 : hasR l id with
    | false =>
      have e' : remS l id = ([], 11) := by unfold remS; rw [if_neg (fun h => h h1), if_neg (by rw [h4]; decide)]
      rw [e']; exact ⟨rfl, rfl⟩
    | true =>
      have e' : remS l id = (l.take (atR l id) ++ l.drop (atR l id + 1), 0) := by unfold remS; rw [if_neg (fun h => h h1), if_pos h4]
      have hlt : atR l id < l.length := by
        unfold hasR at h4
        simp only [Bool.and_eq_true, decide_eq_true_eq] at h4
        omega
      have es : w64 ((atR l id : Int) + 1) = ((atR l id + 1 : Nat) : Int) := by rw [w64_id] <;> omega
      rw [e', es]
      simp only [Bool.not_true, cond_false]
      simp only [Int.toNat_natCast, List.nil_append, List.length_nil, List.length_take, List.length_drop]
      have k1 : decide (0 ≤ (atR l id : Int) ∧ (atR l id : Int) ≤ (l.length : Int)) = true := decide_eq_true (by omega)
      have k3 : decide (0 ≤ ((atR l id + 1 : Nat) : Int) ∧ ((atR l id + 1 : Nat) : Int) ≤ (l.length : Int)) = true := decide_eq_true (by omega)
      have k2 : ∀ n : Nat, n ≤ 1000 → decide (n * 640 ≤ 140737488355328) = true := fun n hn => decide_eq_true (by omega)
      rw [k1, k3]
      repeat rw [k2 _ (by omega)]
      exact ⟨rfl, rfl⟩
  · have e' : remS l id = ([], 2) := by unfold remS; rw [if_pos h1]
    rw [bOf_f h1, e']; exact ⟨rfl, rfl⟩

theorem replace_eq (l : List api_Record) (r : api_Record) (w : wfLU wfU_api_Record l) (wr : wfU_api_Record r) : registry_Replace l r = some (repS l r) ∧ ref26_Replace l r = some (repS l r) := by
  obtain ⟨v1, v2⟩ := registry_valid l 64 w
  obtain ⟨s1, s2⟩ := synopsis_validate r.Synopsis wr.2
  unfold registry_Replace ref26_Replace
  rw [v1, v2, s1, s2]
  by_cases h1 : okRg l 64
  · rw [bOf_t h1]
    have hlen := h1.1
    simp only [Option.bind_some, Bool.not_true, Bool.not_false, gd_true, Bool.false_or]
    by_cases h2 : okSy r.Synopsis
    · rw [vOf_t h2, bne_self_eq_false, cond_false, cond_false, find_prog l r.ID (by omega) (okRg_asc h1), find26 l r.ID (len_max w.1), found_eq]
      simp only [Option.bind_some]
      cases h4 : hasR l r.ID with
      | false =>
        have e' : repS l r = ([], 11) := by unfold repS; rw [if_neg (fun h => h ⟨h1, h2⟩), if_neg (by rw [h4]; decide)]
        rw [e']; exact ⟨rfl, rfl⟩
      | true =>
        have e' : repS l r = (l.set (atR l r.ID) r, 0) := by unfold repS; rw [if_neg (fun h => h ⟨h1, h2⟩), if_pos h4]
        have hlt : atR l r.ID < l.length := by
          unfold hasR at h4
          simp only [Bool.and_eq_true, decide_eq_true_eq] at h4
          omega
        rw [e']
        simp only [Bool.not_true, cond_false]
        simp only [Int.toNat_natCast, List.nil_append, List.length_nil, Nat.zero_add, el_idx hlt, Option.bind_some]
        have k2 : decide (l.length * 640 ≤ 140737488355328) = true := decide_eq_true (by omega)
        rw [k2]
        exact ⟨rfl, rfl⟩
    · have e' : repS l r = ([], 2) := by unfold repS; rw [if_pos fun h => h2 h.2]
      rw [vOf_f h2, e']; exact ⟨rfl, rfl⟩
  · have e' : repS l r = ([], 2) := by unfold repS; rw [if_pos fun h => h1 h.1]
    rw [bOf_f h1, e']; exact ⟨rfl, rfl⟩

theorem same26_refl (l : List api_Record) (hl : l.length ≤ 1048577) (h : ∀ r ∈ l, lenS r.Synopsis) : ref26_Same l l = some true := by
  have hm : l.length ≤ maxLen := by rw [maxLen_eq]; omega
  have hi : registry_IDs l = some (idsOf l) := by
    unfold registry_IDs registry_IDs_l2
    have H := loop_st (f := fun s : List Int × Int => registry_IDs_l2s l s.1 s.2) (fun i => (idsOf (l.take i), (i : Int))) 0 l.length (Nat.zero_le _) (fun _ => False) [] (some (idsOf l))
      (fun i _ hi _ => by
        refine ⟨fun h => h.elim, fun _ => ?_⟩
        simp only []
        unfold registry_IDs_l2s
        rw [decide_eq_true (by omega : (i : Int) < (l.length : Int)), cond_true, el_idx hi, Option.bind_some, succW hi hm]
        have e1 : idsOf (l.take (i + 1)) = idsOf (l.take i) ++ [(el l i).ID] := by
          rw [List.take_add_one, el_get? hi]; simp [idsOf]
        have e2 : (idsOf (l.take i)).length = i := by unfold idsOf; rw [List.length_map, List.length_take]; omega
        rw [e1, e2, decide_eq_true (by simp only [List.length_cons, List.length_nil]; omega), ck_true])
      (fun _ => by
        simp only []
        unfold registry_IDs_l2s
        rw [decide_eq_false (Int.lt_irrefl _), cond_false, List.take_length])
    exact H.2 (fun _ _ _ h => h)
  unfold ref26_Same
  rw [ids_eq, hi, Option.bind_some, Option.bind_some, numbers_refl (idsOf l) (by unfold idsOf; rw [List.length_map]; exact hm), Option.bind_some, Bool.not_true, cond_false]
  unfold ref26_Same_l3
  refine (loop_prop (f := fun s : Int => ref26_Same_l3s l l s) l.length (fun _ => False) false (some true) (fun i hi _ => ⟨fun h => h.elim, fun _ => ?_⟩) (fun _ => ?_)).2 fun _ _ h => h
  · unfold ref26_Same_l3s
    rw [decide_eq_true (by omega : (i : Int) < (l.length : Int)), cond_true, el_idx hi]
    simp [succW hi hm, same25_refl _ (h _ (el_mem hi))]
  · unfold ref26_Same_l3s
    rw [decide_eq_false (Int.lt_irrefl _), cond_false]

theorem law26_RegistryChanges_upto (p0 : List api_Record) (p1 : Int) (p2 : api_Record) (w0 : wfLU wfU_api_Record p0) (_ : wfI .i64 p1) (w2 : wfU_api_Record p2) : law26_RegistryChanges p0 p1 p2 = some true := by
  unfold law26_RegistryChanges
  obtain ⟨b, h1, _⟩ := few26 p0 (len_max w0.1)
  obtain ⟨c, h3, _⟩ := few26 [p2] (by rw [maxLen_eq]; simp)
  rw [h1, h3, Option.bind_some, awake26]
  have l0 : ∀ r ∈ p0, lenS r.Synopsis := fun r hr => lenS_of _ (w0.2 r hr).2
  have l2 : lenS p2.Synopsis := lenS_of _ w2.2
  have hlen := w0.1
  cases b with
  | false => rfl
  | true =>
    cases c with
    | false => rfl
    | true =>
      obtain ⟨i1, i2⟩ := insert_eq p0 p1 p2 w0 w2
      obtain ⟨r1, r2⟩ := remove_eq p0 p2.ID w0
      obtain ⟨q1, q2⟩ := replace_eq p0 p2 w0 w2
      rw [i1, i2, r1, r2, q1, q2]
      have s1 : ref26_Same (insS p0 p1 p2).1 (insS p0 p1 p2).1 = some true := by
        refine same26_refl _ ?_ ?_
        · unfold insS
          repeat' split
          all_goals first | (simp only [List.length_nil]; omega) | skip
          have := atR_le p0 p2.ID
          simp only [List.length_append, List.length_take, List.length_drop, List.length_cons, List.length_nil]
          omega
        · unfold insS
          repeat' split
          all_goals first | (intro r hr; cases hr; done) | skip
          intro r hr
          simp only [List.mem_append, List.mem_singleton] at hr
          rcases hr with (hr | rfl) | hr
          · exact l0 r (List.mem_of_mem_take hr)
          · exact l2
          · exact l0 r (List.mem_of_mem_drop hr)
      have s2 : ref26_Same (remS p0 p2.ID).1 (remS p0 p2.ID).1 = some true := by
        refine same26_refl _ ?_ ?_
        · unfold remS
          repeat' split
          all_goals first | (simp only [List.length_nil]; omega) | skip
          simp only [List.length_append, List.length_take, List.length_drop]
          omega
        · unfold remS
          repeat' split
          all_goals first | (intro r hr; cases hr; done) | skip
          intro r hr
          simp only [List.mem_append] at hr
          rcases hr with hr | hr
          · exact l0 r (List.mem_of_mem_take hr)
          · exact l0 r (List.mem_of_mem_drop hr)
      have s3 : ref26_Same (repS p0 p2).1 (repS p0 p2).1 = some true := by
        refine same26_refl _ ?_ ?_
        · unfold repS
          repeat' split
          all_goals first | (simp only [List.length_nil]; omega) | skip
          simp only [List.length_set]
          omega
        · unfold repS
          repeat' split
          all_goals first | (intro r hr; cases hr; done) | skip
          intro r hr
          rcases List.mem_or_eq_of_mem_set hr with hr | rfl
          · exact l0 r hr
          · exact l2
      simp [s1, s2, s3]

end Go.Win

