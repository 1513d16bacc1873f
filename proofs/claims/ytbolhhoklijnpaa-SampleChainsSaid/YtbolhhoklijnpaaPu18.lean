/- Pu: chapter 18, chains. -/
import Derived.Test.YtbolhhoklijnpaaPu0
import Derived.Test.YtbolhhoklijnpaaWin
namespace Go.Win
open Go.Vc Go.Dec

theorem draw_next_eq : draw_Next = ref07_Next := rfl

def badC (x : api_Chain) (i : Nat) : Bool := match x.Links[i]? with
  | none => false
  | some l => (((((decide (l.V < (-4096:Int))) || (decide (l.V > (4096:Int)))) || (decide (l.I < (1:Int)))) || (decide (l.I > x.I))) || (decide (l.I ≤ (w64 (x.I - x.W))))) ||
    (decide (0 < i) && match x.Links[i - 1]? with
      | none => false
      | some p => decide (l.I ≤ p.I) || decide (l.I > w64 (p.I + x.W)))

noncomputable def badR (x : api_Chain) (i : Nat) : Bool := match x.Links[i]? with
  | none => false
  | some l => ((!(ref09_Value l.V)) || (decide (l.I > x.I))) ||
    (decide (0 < i) && match x.Links[i - 1]? with
      | none => false
      | some p => decide (l.I ≤ p.I) || decide (l.I > w64 (p.I + x.W)))

def aftC (p0 : api_Chain) : Option Int := (Option.bind (gd (!(decide (p0.Next ≤ p0.I))) (idx p0.Links (w64 ((p0.Links.length : Int) - (1:Int))))) fun x17_14 =>
  cond ((decide (p0.Next ≤ p0.I)) || (decide (p0.Next > (w64 (x17_14.I + p0.W))))) (
    some (2:Int)) <|
  some (0:Int))

theorem pred_nat {i : Nat} (h : 0 < i) (hm : i ≤ maxLen) : w64 ((i : Int) - 1) = ((i - 1 : Nat) : Int) := by
  rw [maxLen_eq] at hm
  rw [w64_id] <;> omega
theorem succ_nat {i n : Nat} (h : i < n) (hm : n ≤ maxLen) : w64 ((i : Int) + 1) = (i : Int) + 1 := by
  rw [maxLen_eq] at hm
  rw [w64_id] <;> omega

theorem loopC (x : api_Chain) (hl : x.Links.length ≤ maxLen) : chain_Validate_l6 x 0 = cond ((List.range x.Links.length).any (badC x)) (some 2) (aftC x) := by
  unfold chain_Validate_l6
  refine loop_all (fun i hi => ?_) ?_
  · have h1 : x.Links[i]? = some x.Links[i] := List.getElem?_eq_getElem hi
    have hs := succ_nat hi hl
    unfold chain_Validate_l6s badC
    simp only [Int.ofNat_lt, hi, decide_true, cond_true, idx_nat, h1, Option.bind_some, hs]
    by_cases h0 : 0 < i
    · have hp := pred_nat h0 (Nat.le_trans (Nat.le_of_lt hi) hl)
      have h2 : x.Links[i - 1]? = some x.Links[i - 1] := List.getElem?_eq_getElem (by omega)
      have h3 : ((i : Int) > 0) := by omega
      simp only [hp, idx_nat, h2, h3, h0, decide_true, gd_true, Option.bind_some, Bool.true_and]
      cases decide (x.Links[i].I ≤ x.Links[i - 1].I) <;> cases (((((decide (x.Links[i].V < (-4096:Int))) || (decide (x.Links[i].V > (4096:Int)))) || (decide (x.Links[i].I < (1:Int)))) || (decide (x.Links[i].I > x.I))) || (decide (x.Links[i].I ≤ (w64 (x.I - x.W))))) <;> simp
    · have h3 : ¬ ((i : Int) > 0) := by omega
      simp only [h3, h0, decide_false, gd_false, Option.bind_some, Bool.false_and, cond_false, Bool.or_false]
  · unfold chain_Validate_l6s
    simp only [Int.lt_irrefl, decide_false, cond_false]
    rfl


theorem loopR (x : api_Chain) (hl : x.Links.length ≤ maxLen) : ref18_Validate_l6 x 0 = cond ((List.range x.Links.length).any (badR x)) (some 2) (aftC x) := by
  unfold ref18_Validate_l6
  refine loop_all (fun i hi => ?_) ?_
  · have h1 : x.Links[i]? = some x.Links[i] := List.getElem?_eq_getElem hi
    have hs := succ_nat hi hl
    unfold ref18_Validate_l6s badR
    simp only [Int.ofNat_lt, hi, decide_true, cond_true, idx_nat, h1, Option.bind_some, hs]
    by_cases h0 : 0 < i
    · have hp := pred_nat h0 (Nat.le_trans (Nat.le_of_lt hi) hl)
      have h2 : x.Links[i - 1]? = some x.Links[i - 1] := List.getElem?_eq_getElem (by omega)
      have h3 : ((i : Int) > 0) := by omega
      simp only [hp, idx_nat, h2, h3, h0, decide_true, Bool.true_and, Bool.and_true]
      by_cases hA : x.Links[i].I ≤ x.Links[i - 1].I <;> cases ((!(ref09_Value x.Links[i].V)) || (decide (x.Links[i].I > x.I))) <;> simp [hA]
    · have h3 : ¬ ((i : Int) > 0) := by omega
      simp only [h3, h0, decide_false, gd_false, Option.bind_some, Bool.false_and, Bool.and_false, Bool.or_false]
  · unfold ref18_Validate_l6s
    simp only [Int.lt_irrefl, decide_false, cond_false]
    rfl

theorem get_some {α : Type} {l : List α} {i : Nat} (h : i < l.length) : l[i]? = some l[i] := List.getElem?_eq_getElem h

/-- Where no link breaks the order, the first one is the least. -/
theorem asc (x : api_Chain) (h : ∀ i, i < x.Links.length → badR x i = false) : ∀ i (hi : i < x.Links.length), x.Links[0].I ≤ x.Links[i].I := by
  intro i
  induction i with
  | zero => intro hi; exact Int.le_refl _
  | succ i ih =>
    intro hi
    have h1 := ih (by omega)
    have h2 := h (i + 1) hi
    simp only [badR, get_some hi, Nat.add_sub_cancel, get_some (show i < x.Links.length by omega), Nat.succ_pos, decide_true, Bool.true_and, Bool.or_eq_false_iff, decide_eq_false_iff_not] at h2
    omega

/-- The first link stands outside. -/
def firstBad (x : api_Chain) : Bool := match x.Links[0]? with
  | none => false
  | some l => decide (l.I ≤ w64 (x.I - x.W)) || decide (l.I < 1)

theorem anyCR (x : api_Chain) : (List.range x.Links.length).any (badC x) = (firstBad x || (List.range x.Links.length).any (badR x)) := by
  rw [Bool.eq_iff_iff, Bool.or_eq_true, any_iff, any_iff]
  constructor
  · rintro ⟨i, hi, hb⟩
    by_cases hR : ∃ i, i < x.Links.length ∧ badR x i = true
    · exact .inr hR
    · left
      have hno : ∀ i, i < x.Links.length → badR x i = false := fun i hi => by
        cases h : badR x i with
        | false => rfl
        | true => exact absurd ⟨i, hi, h⟩ hR
      have ha := asc x hno i hi
      have h2 := hno i hi
      have h0 : 0 < x.Links.length := by omega
      simp only [firstBad, get_some h0, Bool.or_eq_true, decide_eq_true_eq]
      simp only [badR, get_some hi, ref09_Value, Bool.or_eq_false_iff, Bool.not_eq_false', Bool.and_eq_true, decide_eq_true_eq, decide_eq_false_iff_not] at h2
      simp only [badC, get_some hi, Bool.or_eq_true, decide_eq_true_eq] at hb
      obtain ⟨⟨⟨h3, h4⟩, h5⟩, h6⟩ := h2
      rcases hb with hb | hb
      · omega
      · rw [h6] at hb; cases hb
  · rintro (h | ⟨i, hi, hb⟩)
    · have h0 : 0 < x.Links.length := by
        rcases Nat.eq_zero_or_pos x.Links.length with h0 | h0
        · simp [firstBad, List.eq_nil_of_length_eq_zero h0] at h
        · exact h0
      refine ⟨0, h0, ?_⟩
      simp only [firstBad, get_some h0, Bool.or_eq_true, decide_eq_true_eq] at h
      simp only [badC, get_some h0, Bool.or_eq_true, decide_eq_true_eq]
      left
      omega
    · refine ⟨i, hi, ?_⟩
      simp only [badR, get_some hi, ref09_Value, Bool.or_eq_true, Bool.not_eq_true', Bool.and_eq_false_iff, decide_eq_true_eq, decide_eq_false_iff_not] at hb
      simp only [badC, get_some hi, Bool.or_eq_true, decide_eq_true_eq]
      rcases hb with hb | hb
      · left; omega
      · exact .inr hb

theorem validate_eq (x : api_Chain) (hl : x.Links.length ≤ maxLen) : chain_Validate x = ref18_Validate x := by
  unfold chain_Validate ref18_Validate
  simp only [loopC x hl, loopR x hl, anyCR x]
  have e1 : (((((((decide (x.W < (1:Int))) || (decide (x.W > (1048576:Int)))) || (decide (x.Cap < (1:Int)))) || (decide (x.Cap > (64:Int)))) || (decide (x.I < (0:Int)))) || (decide (x.I > (1099511627776:Int)))) || (decide ((x.Links.length : Int) > x.Cap)))
    = ((((((!(ref06_Window x.W)) || (decide (x.Cap < (1:Int)))) || (decide (x.Cap > (64:Int)))) || (decide (x.I < (0:Int)))) || (decide (x.I > (1099511627776:Int)))) || (decide ((x.Links.length : Int) > x.Cap))) := by
    rw [Bool.eq_iff_iff]
    simp only [ref06_Window, Bool.or_eq_true, Bool.not_eq_true', Bool.and_eq_false_iff, decide_eq_true_eq, decide_eq_false_iff_not]
    omega
  rw [e1]
  congr 2
  · rw [show decide ((x.Links.length : Int) > 0) = ((x.Links.length : Int) != 0) by rw [Bool.eq_iff_iff, decide_eq_true_eq, bne_iff_ne]; omega]
  · by_cases h0 : x.Links = []
    · simp [h0]
    · have h1 : 0 < x.Links.length := List.length_pos_iff.2 h0
      have h2 : ((x.Links.length : Int) == 0) = false := by rw [beq_eq_false_iff_ne]; omega
      have h3 : idx x.Links (0 : Int) = some x.Links[0] := by simp [idx, h1]
      simp only [h2, h3, cond_false, Bool.not_false, gd_true, Option.bind_some, Bool.false_or, firstBad, get_some h1]
      by_cases hA : x.Links[0].I ≤ w64 (x.I - x.W) <;> by_cases hB : x.Links[0].I < 1 <;> simp [hA, hB]

theorem ask_eq (x : api_Chain) (hl : x.Links.length ≤ maxLen) : chain_Ask x = ref18_Ask x := by
  unfold chain_Ask ref18_Ask
  rw [validate_eq x hl]

theorem same_refl (x : api_Chain) (hl : x.Links.length ≤ maxLen) : ref18_Same x x = some true := by
  unfold ref18_Same
  have h : ref18_Same_l3 x x 0 = cond ((List.range x.Links.length).any fun _ => false) (some false) (some true) := by
    unfold ref18_Same_l3
    refine loop_all (fun i hi => ?_) ?_
    · unfold ref18_Same_l3s
      simp [hi, succ_nat hi hl]
    · unfold ref18_Same_l3s
      simp
  have hf : ((List.range x.Links.length).any fun _ => false) = false := by simp
  rw [hf] at h
  simp [h]

theorem validate_total (x : api_Chain) (hl : x.Links.length ≤ maxLen) : ∃ r, chain_Validate x = some r ∧ (r = 0 → 0 ≤ x.I ∧ x.I ≤ 1099511627776 ∧ 1 ≤ x.W ∧ x.W ≤ 1048576 ∧ 1 ≤ x.Cap ∧ x.Cap ≤ 64 ∧ (x.Links.length : Int) ≤ x.Cap ∧ (x.Links = [] → x.I = 0) ∧ (x.I = 0 → x.Next = 0)) := by
  unfold chain_Validate
  simp only [loopC x hl]
  by_cases h : (((((((decide (x.W < (1:Int))) || (decide (x.W > (1048576:Int)))) || (decide (x.Cap < (1:Int)))) || (decide (x.Cap > (64:Int)))) || (decide (x.I < (0:Int)))) || (decide (x.I > (1099511627776:Int)))) || (decide ((x.Links.length : Int) > x.Cap))) = true
  · rw [h]
    exact ⟨2, rfl, fun h => by simp at h⟩
  · rw [Bool.not_eq_true] at h
    rw [h]
    simp only [Bool.or_eq_false_iff, decide_eq_false_iff_not] at h
    by_cases h0 : x.I = 0
    · simp only [h0, beq_self_eq_true, cond_true, cond_false]
      cases hc : (decide ((x.Links.length : Int) > (0:Int)) || (x.Next != (0:Int)))
      · simp only [Bool.or_eq_false_iff, bne_eq_false_iff_eq] at hc
        exact ⟨0, rfl, fun _ => ⟨by omega, by omega, by omega, by omega, by omega, by omega, by omega, fun _ => trivial, fun _ => hc.2⟩⟩
      · exact ⟨2, rfl, fun h => by simp at h⟩
    · have h0' : (x.I == 0) = false := by rw [beq_eq_false_iff_ne]; exact h0
      simp only [h0', cond_false]
      by_cases h1 : x.Links = []
      · rw [h1]
        exact ⟨2, rfl, fun h => by simp at h⟩
      · have h2 : ((x.Links.length : Int) == 0) = false := by
          have := List.length_pos_iff.2 h1
          rw [beq_eq_false_iff_ne]; omega
        simp only [h2, cond_false]
        have all : ∀ r : Int, (r = 0 → 0 ≤ x.I ∧ x.I ≤ 1099511627776 ∧ 1 ≤ x.W ∧ x.W ≤ 1048576 ∧ 1 ≤ x.Cap ∧ x.Cap ≤ 64 ∧ (x.Links.length : Int) ≤ x.Cap ∧ (x.Links = [] → x.I = 0) ∧ (x.I = 0 → x.Next = 0)) := fun _ _ => ⟨by omega, by omega, by omega, by omega, by omega, by omega, by omega, fun h => absurd h h1, fun h => absurd h h0⟩
        cases (List.range x.Links.length).any (badC x) with
        | true => exact ⟨2, rfl, all _⟩
        | false =>
          simp only [cond_false]
          unfold aftC
          have hp := List.length_pos_iff.2 h1
          have hw := pred_nat hp hl
          simp only [hw, idx_nat, get_some (show x.Links.length - 1 < x.Links.length by omega)]
          by_cases hN : x.Next ≤ x.I
          · simp only [hN, decide_true, Bool.not_true, gd_false, Option.bind_some, Bool.true_or, cond_true]
            exact ⟨2, rfl, all _⟩
          · simp only [hN, decide_false, Bool.not_false, gd_true, Option.bind_some, Bool.false_or]
            cases decide (x.Next > w64 ((x.Links[x.Links.length - 1]'(by omega)).I + x.W))
            · exact ⟨0, rfl, all _⟩
            · exact ⟨2, rfl, all _⟩

theorem awake18 : law18_awake = some true := by
  have h1 : chain_Validate ⟨2, 5, 1, 3, [⟨1, 7⟩]⟩ = some 0 := by
    have := loopC ⟨2, 5, 1, 3, [⟨1, 7⟩]⟩ (by simp [maxLen])
    unfold chain_Validate
    simp only [this]
    rfl
  have h2 : chain_Add (chain_New 2 5).1 7 [0, 1] 0 = some (⟨2, 5, 1, 3, [⟨1, 7⟩]⟩, 2, 0) := rfl
  have h3 : chain_Ask ⟨2, 5, 1, 3, [⟨1, 7⟩]⟩ = some (7, 0) := by
    unfold chain_Ask
    rw [h1]
    rfl
  unfold law18_awake
  simp only [h2, Option.bind_some, h3]
  rfl

theorem law18_ChainNew_true (p0 p1 : Int) (_ : wfI .i64 p0) (_ : wfI .i64 p1) : law18_ChainNew p0 p1 = some true := by
  have h : chain_New p0 p1 = ref18_New p0 p1 := by
    unfold chain_New ref18_New
    congr 1
    rw [Bool.eq_iff_iff]
    simp only [ref06_Window, Bool.or_eq_true, Bool.not_eq_true', Bool.and_eq_false_iff, decide_eq_true_eq, decide_eq_false_iff_not]
    omega
  have hl : (ref18_New p0 p1).1.Links.length ≤ maxLen := by
    unfold ref18_New
    simp only
    cases ((!ref06_Window p0) || decide (p1 < 1)) || decide (p1 > 64) <;> simp
  unfold law18_ChainNew
  simp only [h, same_refl _ hl, awake18, Option.bind_some]
  simp

theorem law18_ChainStates_true (p0 : api_Chain) (w0 : wf_api_Chain p0) : law18_ChainStates p0 = some true := by
  have hl : p0.Links.length ≤ maxLen := w0.2.2.2.2.1
  unfold law18_ChainStates
  simp only [awake18, Option.bind_some]
  cases law18_few p0 with
  | false => rfl
  | true =>
    obtain ⟨r, hr, hok⟩ := validate_total p0 hl
    have ha : ∃ a, ref18_Ask p0 = some a := by
      unfold ref18_Ask
      rw [← validate_eq p0 hl, hr]
      simp only [Option.bind_some]
      by_cases h0 : r = 0
      · subst h0
        simp only [bne_self_eq_false, cond_false]
        by_cases h1 : p0.Links = []
        · rw [h1]; exact ⟨_, rfl⟩
        · have hp := List.length_pos_iff.2 h1
          have h2 : ((p0.Links.length : Int) == 0) = false := by rw [beq_eq_false_iff_ne]; omega
          have h3 : idx p0.Links (0 : Int) = some p0.Links[0] := by simp [idx, hp]
          simp only [h2, cond_false, h3, Option.bind_some]
          exact ⟨_, rfl⟩
      · have : (r != 0) = true := by simp [h0]
        simp only [this, cond_true]
        exact ⟨_, rfl⟩
    obtain ⟨a, ha⟩ := ha
    simp only [ask_eq p0 hl, ha, ← validate_eq p0 hl, hr, Option.bind_some]
    simp

/-! ### Draws -/

def nextS (draws : List Int) (at_ m : Int) : Int × Int × Int :=
  if m < 1 ∨ at_ < 0 then (0, 0, 1) else match draws[at_.toNat]? with
    | none => (0, 0, 8)
    | some d => if d < 0 ∨ d ≥ m then (0, 0, 8) else (d, w64 (at_ + 1), 0)

theorem draw_next (draws : List Int) (at_ m : Int) : draw_Next draws at_ m = some (nextS draws at_ m) := by
  unfold draw_Next nextS
  by_cases h : m < 1 ∨ at_ < 0
  · have hb : (decide (m < 1) || decide (at_ < 0)) = true := by simpa using h
    simp only [hb, cond_true, if_pos h]
  · have hb : (decide (m < 1) || decide (at_ < 0)) = false := by simpa using h
    rw [if_neg h]
    simp only [hb, cond_false]
    have h0 : 0 ≤ at_ := by omega
    by_cases hl : at_ ≥ (draws.length : Int)
    · have hn : draws[at_.toNat]? = none := List.getElem?_eq_none (by omega)
      simp only [hl, decide_true, Bool.not_true, gd_false, Option.bind_some, Bool.true_or, cond_true, hn]
    · have hn : draws[at_.toNat]? = some (draws[at_.toNat]'(by omega)) := List.getElem?_eq_getElem (by omega)
      have hi : idx draws at_ = some (draws[at_.toNat]'(by omega)) := by
        unfold idx
        rw [if_pos h0, hn]
      simp only [hl, decide_false, Bool.not_false, gd_true, Option.bind_some, Bool.false_or, hi, hn]
      generalize draws[at_.toNat]'(by omega) = d
      by_cases h1 : d < 0 <;> by_cases h2 : d ≥ m <;> simp [h1, h2, gd]

theorem ref_next (draws : List Int) (at_ m : Int) : ref07_Next draws at_ m = some (nextS draws at_ m) := draw_next draws at_ m

theorem nextS_spec {draws : List Int} {at_ m : Int} (hm : 1 ≤ m) (ha : 0 ≤ at_) :
    ((nextS draws at_ m).2.2 = 8) ∨ ((nextS draws at_ m).2.2 = 0 ∧ at_ < draws.length ∧ (nextS draws at_ m).2.1 = w64 (at_ + 1) ∧ 0 ≤ (nextS draws at_ m).1 ∧ (nextS draws at_ m).1 < m) := by
  unfold nextS
  rw [if_neg (by omega)]
  split
  · exact .inl rfl
  · rename_i d hd
    have := (List.getElem?_eq_some_iff.1 hd).1
    split
    · exact .inl rfl
    · exact .inr ⟨rfl, by omega, rfl, by show 0 ≤ d; omega, by show d < m; omega⟩

theorem source_next (draws : List Int) (at_ b m : Int) : chain_source_next ⟨draws, at_, b⟩ m = some (
    if (nextS draws at_ m).2.2 = 0 then ((nextS draws at_ m).1, 0, ⟨draws, (nextS draws at_ m).2.1, b⟩) else (0, (nextS draws at_ m).2.2, ⟨draws, at_, if at_ ≥ (draws.length : Int) then m else b⟩)) := by
  unfold chain_source_next
  simp only [draw_next, Option.bind_some]
  generalize nextS draws at_ m = q
  by_cases h : q.2.2 = 0
  · simp [h]
  · have hb : (q.2.2 != 0) = true := by rw [bne_iff_ne]; exact h
    by_cases h2 : at_ ≥ (draws.length : Int) <;> simp [h, h2, hb]

/-- The same step, seen from both sides. -/
def Rel (draws : List Int) (a : api_Chain × Int × chain_source) (b : api_Chain × Int × Int × Int) : Prop :=
  a.2.1 = b.2.2.2 ∧ (a.2.1 = 0 → a.1 = b.1 ∧ a.2.2.at_ = b.2.1) ∧ (a.2.1 = 8 → if b.2.1 < (draws.length : Int) then a.2.2.beyond_ = 0 else a.2.2.beyond_ = b.2.2.1 ∧ b.2.2.1 ≠ 0)

theorem j_rel (x : api_Chain) (v : Int) (draws : List Int) (links : List api_Link) (tk : Bool) (at_ : Int) (ha : 0 ≤ at_) (hl : (links.length : Int) ≤ x.Cap) (hc : x.Cap ≤ 64) (hW : 1 ≤ x.W) :
    ∃ a b, chain_add_j5 x v links tk draws at_ 0 = some a ∧ ref18_step_j4 x v draws at_ links tk = some b ∧ Rel draws a b := by
  unfold chain_add_j5 ref18_step_j4
  cases tk with
  | false => exact ⟨_, _, rfl, rfl, rfl, fun _ => ⟨rfl, rfl⟩, fun h => by simp at h⟩
  | true =>
    have hk : decide ((links.length + [(api_Link.mk (w64 (x.I + (1:Int))) v)].length) * 16 ≤ 140737488355328) = true := by
      rw [decide_eq_true_eq, List.length_singleton]; omega
    simp only [cond_true, hk, ck_true]
    by_cases hf : (links.length : Int) = x.Cap
    · have h1 : ((links.length : Int) == x.Cap) = true := by rw [beq_iff_eq]; exact hf
      have h2 : decide (((links ++ [(api_Link.mk (w64 (x.I + (1:Int))) v)]).length : Int) > x.Cap) = true := by
        rw [decide_eq_true_eq, List.length_append, List.length_singleton]; omega
      simp only [h1, h2, cond_true]
      exact ⟨_, _, rfl, rfl, rfl, fun h => by simp at h, fun h => by simp at h⟩
    · have h1 : ((links.length : Int) == x.Cap) = false := by rw [beq_eq_false_iff_ne]; exact hf
      have h2 : decide (((links ++ [(api_Link.mk (w64 (x.I + (1:Int))) v)]).length : Int) > x.Cap) = false := by
        rw [decide_eq_false_iff_not, List.length_append, List.length_singleton]; omega
      simp only [h1, h2, cond_false, source_next, ref_next, Option.bind_some]
      rcases nextS_spec (draws := draws) hW ha with he | ⟨he, h3, h4, h5, h6⟩
      · have e1 : ((8:Int) != 0) = true := rfl
        simp only [he, if_neg (show ¬ (8:Int) = 0 by decide), e1, cond_true]
        refine ⟨_, _, rfl, rfl, rfl, fun h => by simp at h, fun _ => ?_⟩
        by_cases hat : at_ < (draws.length : Int)
        · simp only [hat, if_true]
          rw [if_neg (by omega)]
        · simp only [hat, if_false]
          rw [if_pos (by omega)]
          exact ⟨rfl, by show x.W ≠ 0; omega⟩
      · have e1 : ((0:Int) != 0) = false := rfl
        simp only [he, if_true, e1, cond_false]
        exact ⟨_, _, rfl, rfl, rfl, fun _ => ⟨rfl, rfl⟩, fun h => by simp at h⟩

theorem add_rel (x : api_Chain) (v : Int) (draws : List Int) (at_ : Int) (hd : draws.length ≤ maxLen) (hI : 0 ≤ x.I) (hI2 : x.I ≤ 1099511627776) (hW : 1 ≤ x.W) (_ : x.W ≤ 1048576) (hC1 : 1 ≤ x.Cap) (hC : x.Cap ≤ 64) (hL : (x.Links.length : Int) ≤ x.Cap) (hN : x.I = 0 → x.Next = 0) :
    ∃ a b, chain_add x v ⟨draws, at_, 0⟩ = some a ∧ ref18_step x v draws at_ = some b ∧ Rel draws a b := by
  unfold chain_add ref18_step
  have hv : (decide (v < -4096) || decide (v > 4096)) = !(ref09_Value v) := by
    rw [Bool.eq_iff_iff]
    simp only [ref09_Value, Bool.or_eq_true, Bool.not_eq_true', Bool.and_eq_false_iff, decide_eq_true_eq, decide_eq_false_iff_not]
    omega
  rw [hv]
  cases hvv : ref09_Value v with
  | false => exact ⟨_, _, rfl, rfl, rfl, fun h => by simp at h, fun h => by simp at h⟩
  | true =>
    simp only [Bool.not_true, cond_false]
    by_cases ha : at_ < 0
    · simp only [ha, decide_true, cond_true]
      exact ⟨_, _, rfl, rfl, rfl, fun h => by simp at h, fun h => by simp at h⟩
    have ha0 : 0 ≤ at_ := by omega
    simp only [ha, decide_false, cond_false]
    by_cases hI3 : x.I = 1099511627776
    · have : (x.I == 1099511627776) = true := by rw [beq_iff_eq]; exact hI3
      simp only [this, cond_true]
      exact ⟨_, _, rfl, rfl, rfl, fun h => by simp at h, fun h => by simp at h⟩
    have hI4 : (x.I == 1099511627776) = false := by rw [beq_eq_false_iff_ne]; exact hI3
    have hi : w64 (x.I + 1) = x.I + 1 := by rw [w64_id] <;> omega
    have hk : decide ((([] : List api_Link).length + x.Links.length) * 16 ≤ 140737488355328) = true := by
      rw [decide_eq_true_eq, List.length_nil]; omega
    have htk : (decide (x.I > 0) && (x.Next == w64 (x.I + 1))) = (x.Next == w64 (x.I + 1)) := by
      by_cases h0 : x.I = 0
      · have := hN h0
        rw [hi, h0, this]; rfl
      · have : x.I > 0 := by omega
        simp [this]
    simp only [hI4, cond_false, hk, ck_true, List.nil_append, htk]
    have hm : 1 ≤ imin (w64 (x.I + 1)) x.W := by
      rw [hi]; unfold imin; split <;> omega
    -- the coin
    have coin : ∀ (b : Bool), ∃ a b', (Option.bind (chain_source_next ⟨draws, at_, 0⟩ (imin (w64 (x.I + 1)) x.W)) fun y12_5 =>
        cond (y12_5.2.1 != (0:Int)) (
          some ((api_Chain.mk (0:Int) (0:Int) (0:Int) (0:Int) ([] : List api_Link)), y12_5.2.1, y12_5.2.2)) <|
        cond (y12_5.1 == (0:Int)) (
          chain_add_j5 x v ([] : List api_Link) true y12_5.2.2.draws_ y12_5.2.2.at_ y12_5.2.2.beyond_) <|
        chain_add_j5 x v x.Links b y12_5.2.2.draws_ y12_5.2.2.at_ y12_5.2.2.beyond_) = some a ∧
      (Option.bind (ref07_Next draws at_ (imin (w64 (x.I + (1:Int))) x.W)) fun y13_3 =>
        cond (y13_3.2.2 != (0:Int)) (
          some ((api_Chain.mk (0:Int) (0:Int) (0:Int) (0:Int) ([] : List api_Link)), at_, (imin (w64 (x.I + (1:Int))) x.W), y13_3.2.2)) <|
        cond (y13_3.1 == (0:Int)) (
          ref18_step_j4 x v draws y13_3.2.1 ([] : List api_Link) true) <|
        ref18_step_j4 x v draws y13_3.2.1 x.Links b) = some b' ∧ Rel draws a b' := by
      intro b
      simp only [source_next, ref_next, Option.bind_some]
      rcases nextS_spec (draws := draws) hm ha0 with he | ⟨he, h3, h4, h5, h6⟩
      · have e1 : ((8:Int) != 0) = true := rfl
        simp only [he, if_neg (show ¬ (8:Int) = 0 by decide), e1, cond_true]
        refine ⟨_, _, rfl, rfl, rfl, fun h => by simp at h, fun _ => ?_⟩
        by_cases hat : at_ < (draws.length : Int)
        · simp only [hat, if_true]
          rw [if_neg (by omega)]
        · simp only [hat, if_false]
          rw [if_pos (by omega)]
          exact ⟨rfl, by show imin (w64 (x.I + 1)) x.W ≠ 0; omega⟩
      · have e1 : ((0:Int) != 0) = false := rfl
        have hn : 0 ≤ (nextS draws at_ (imin (w64 (x.I + 1)) x.W)).2.1 := by
          rw [h4, w64_id] <;> (rw [maxLen_eq] at hd; omega)
        simp only [he, if_true, e1, cond_false]
        cases (nextS draws at_ (imin (w64 (x.I + 1)) x.W)).1 == 0 with
        | true => exact j_rel x v draws [] true _ hn (by simp; omega) hC hW
        | false => exact j_rel x v draws x.Links b _ hn hL hC hW
    by_cases hE : x.Links = []
    · rw [hE] at coin ⊢
      exact coin _
    · have hp := List.length_pos_iff.2 hE
      have h1 : decide ((x.Links.length : Int) > 0) = true := by rw [decide_eq_true_eq]; omega
      have h2 : idx x.Links (0 : Int) = some x.Links[0] := by simp [idx, hp]
      simp only [h1, gd_true, h2, Option.bind_some, Bool.true_and]
      cases x.Links[0].I == w64 (w64 (x.I + 1) - x.W) with
      | false => exact coin _
      | true =>
        have h3 : decide (0 ≤ (1:Int) ∧ (1:Int) ≤ (x.Links.length : Int)) = true := by rw [decide_eq_true_eq]; omega
        simp only [cond_true, h3, ck_true]
        exact j_rel x v draws _ _ _ ha0 (by rw [List.length_drop]; omega) hC hW

theorem add_eq (x : api_Chain) (v : Int) (draws : List Int) (at_ : Int) (hl : x.Links.length ≤ maxLen) (hd : draws.length ≤ maxLen) :
    ∃ r, chain_Add x v draws at_ = some r ∧ ref18_Add x v draws at_ = some r := by
  obtain ⟨q, hq, hok⟩ := validate_total x hl
  unfold chain_Add ref18_Add
  rw [← validate_eq x hl, hq]
  simp only [Option.bind_some]
  by_cases h0 : q = 0
  · obtain ⟨h1, h2, h3, h4, h5, h6, h7, _, h8⟩ := hok h0
    obtain ⟨a, b, ha, hb, e1, e2, _⟩ := add_rel x v draws at_ hd h1 h2 h3 h4 h5 h6 h7 h8
    subst h0
    simp only [bne_self_eq_false, cond_false, ha, hb, Option.bind_some, ← e1]
    by_cases he : a.2.1 = 0
    · obtain ⟨e3, e4⟩ := e2 he
      simp only [he, bne_self_eq_false, cond_false, e3, e4]
      exact ⟨_, rfl, rfl⟩
    · have hb : (a.2.1 != 0) = true := by rw [bne_iff_ne]; exact he
      simp only [hb, cond_true]
      exact ⟨_, rfl, rfl⟩
  · have hb : (q != 0) = true := by rw [bne_iff_ne]; exact h0
    simp only [hb, cond_true]
    exact ⟨_, rfl, rfl⟩

theorem needs_eq (x : api_Chain) (v : Int) (draws : List Int) (at_ : Int) (hl : x.Links.length ≤ maxLen) (hd : draws.length ≤ maxLen) :
    ∃ r, chain_Needs x v draws at_ = some r ∧ ref18_Needs x v draws at_ = some r := by
  obtain ⟨q, hq, hok⟩ := validate_total x hl
  unfold chain_Needs ref18_Needs
  rw [← validate_eq x hl, hq]
  simp only [Option.bind_some]
  by_cases h0 : q = 0
  · obtain ⟨h1, h2, h3, h4, h5, h6, h7, _, h8⟩ := hok h0
    obtain ⟨a, b, ha, hb, e1, _, e3⟩ := add_rel x v draws at_ hd h1 h2 h3 h4 h5 h6 h7 h8
    subst h0
    simp only [bne_self_eq_false, cond_false, ha, hb, Option.bind_some, ← e1]
    by_cases he : a.2.1 = 8
    · have e4 := e3 he
      simp only [he, bne_self_eq_false, Bool.false_or]
      by_cases hlt : b.2.1 < (draws.length : Int)
      · rw [if_pos hlt] at e4
        simp only [hlt, e4, decide_true, beq_self_eq_true, cond_true]
        exact ⟨_, rfl, rfl⟩
      · rw [if_neg hlt] at e4
        have hb : (b.2.2.1 == 0) = false := by rw [beq_eq_false_iff_ne]; exact e4.2
        simp only [hlt, decide_false, e4.1, hb, cond_false]
        exact ⟨_, rfl, rfl⟩
    · have hb : (a.2.1 != 8) = true := by rw [bne_iff_ne]; exact he
      simp only [hb, Bool.true_or, cond_true]
      exact ⟨_, rfl, rfl⟩
  · have hb : (q != 0) = true := by rw [bne_iff_ne]; exact h0
    simp only [hb, cond_true]
    exact ⟨_, rfl, rfl⟩

/-- The links behind an item are few. -/
theorem add_len (x : api_Chain) (v : Int) (draws : List Int) (at_ : Int) (hl : x.Links.length ≤ maxLen) (hd : draws.length ≤ maxLen) {r} (h : chain_Add x v draws at_ = some r) : r.1.Links.length ≤ 65 := by
  obtain ⟨q, hq, hok⟩ := validate_total x hl
  unfold chain_Add at h
  obtain ⟨q', h1, h⟩ := bS h
  rw [hq] at h1; cases h1
  by_cases h0 : q = 0
  · obtain ⟨g1, g2, g3, g4, g5, g6, g7, _, g8⟩ := hok h0
    subst h0
    replace h := cF rfl h
    obtain ⟨a, ha, h⟩ := bS h
    by_cases he : a.2.1 = 0
    · replace h := cF (by rw [he]; rfl) h
      cases h
      obtain ⟨a', b, ha', hb, _, e2, _⟩ := add_rel x v draws at_ hd g1 g2 g3 g4 g5 g6 g7 g8
      rw [ha] at ha'; cases ha'
      show a.1.Links.length ≤ 65
      have key : ∀ (l : List api_Link) (tk : Bool) (d : List Int) (o b0 : Int), l.length ≤ 64 → ∀ r, chain_add_j5 x v l tk d o b0 = some r → r.1.Links.length ≤ 65 := by
        intro l tk d o b0 hl r h
        unfold chain_add_j5 at h
        cases tk with
        | false => cases h; exact Nat.le_succ_of_le hl
        | true =>
          replace h := cT rfl h
          by_cases hc : (l.length : Int) == x.Cap
          · replace h := cT hc h
            cases h; simp
          · replace h := cF (by simpa using hc) h
            obtain ⟨_, h⟩ := ckS h
            obtain ⟨y, _, h⟩ := bS h
            by_cases hy : y.2.1 != 0
            · replace h := cT hy h
              cases h; simp
            · replace h := cF (by simpa using hy) h
              cases h
              show (l ++ [_]).length ≤ 65
              simp; omega
      have hL : x.Links.length ≤ 64 := by omega
      unfold chain_add at ha
      by_cases c1 : (decide (v < -4096) || decide (v > 4096)) = true
      · cases cT c1 ha; simp
      replace ha := cF (by simpa using c1) ha
      by_cases c2 : decide (at_ < 0) = true
      · cases cT c2 ha; simp
      replace ha := cF (by simpa using c2) ha
      by_cases c3 : (x.I == 1099511627776) = true
      · cases cT c3 ha; simp
      replace ha := cF (by simpa using c3) ha
      obtain ⟨_, ha⟩ := ckS ha
      obtain ⟨y1, _, ha⟩ := bS ha
      obtain ⟨y2, _, ha⟩ := bS ha
      by_cases c4 : (decide (((([] : List api_Link) ++ x.Links).length : Int) > 0) && (y2.I == w64 (w64 (x.I + 1) - x.W))) = true
      · replace ha := cT c4 ha
        obtain ⟨_, ha⟩ := ckS ha
        exact key _ _ _ _ _ (by simp; omega) _ ha
      · replace ha := cF (by simpa using c4) ha
        obtain ⟨y3, _, ha⟩ := bS ha
        by_cases c5 : (y3.2.1 != 0) = true
        · cases cT c5 ha; simp
        replace ha := cF (by simpa using c5) ha
        by_cases c6 : (y3.1 == 0) = true
        · exact key _ _ _ _ _ (by simp) _ (cT c6 ha)
        · exact key _ _ _ _ _ (by simpa using hL) _ (cF (by simpa using c6) ha)
    · replace h := cT (by rw [bne_iff_ne]; exact he) h
      cases h; simp
  · replace h := cT (by rw [bne_iff_ne]; exact h0) h
    cases h; simp

theorem law18_ChainAdds_true (p0 : api_Chain) (p1 : Int) (p2 : List Int) (p3 : Int) (w0 : wf_api_Chain p0) (_ : wfI .i64 p1) (w2 : wfL (wfI .i64) p2) (_ : wfI .i64 p3) : law18_ChainAdds p0 p1 p2 p3 = some true := by
  have hl : p0.Links.length ≤ maxLen := w0.2.2.2.2.1
  unfold law18_ChainAdds
  simp only [awake18, Option.bind_some]
  cases law18_few p0 with
  | false => rfl
  | true =>
    obtain ⟨r, h1, h2⟩ := add_eq p0 p1 p2 p3 hl w2.1
    obtain ⟨s, h3, h4⟩ := needs_eq p0 p1 p2 p3 hl w2.1
    have hr := add_len p0 p1 p2 p3 hl w2.1 h1
    simp only [h1, h2, h3, h4, Option.bind_some, same_refl r.1 (by rw [maxLen_eq]; omega)]
    simp

/-! ### More draws than are used -/

theorem nextS_more {draws more : List Int} {at_ m : Int} (h : (nextS draws at_ m).2.2 = 0) : nextS (draws ++ more) at_ m = nextS draws at_ m := by
  unfold nextS at h ⊢
  by_cases c : m < 1 ∨ at_ < 0
  · rw [if_pos c] at h; simp at h
  · rw [if_neg c] at h
    rw [if_neg c, if_neg c]
    cases hd : draws[at_.toNat]? with
    | none => rw [hd] at h; simp at h
    | some d =>
      rw [List.getElem?_append_left (List.getElem?_eq_some_iff.1 hd).1, hd]

/-- What a source's draws are does not matter for what stands in the result otherwise. -/
theorem j_more (x : api_Chain) (v : Int) (draws more : List Int) (links : List api_Link) (tk : Bool) (at_ : Int) (b : Int) {a : api_Chain × Int × chain_source}
    (h : chain_add_j5 x v links tk draws at_ b = some a) (h0 : a.2.1 = 0) :
    ∃ a', chain_add_j5 x v links tk (draws ++ more) at_ b = some a' ∧ a'.1 = a.1 ∧ a'.2.1 = 0 ∧ a'.2.2.at_ = a.2.2.at_ := by
  unfold chain_add_j5 at h ⊢
  cases tk with
  | false => cases h; exact ⟨_, rfl, rfl, rfl, rfl⟩
  | true =>
    simp only [cond_true] at h ⊢
    by_cases hc : ((links.length : Int) == x.Cap) = true
    · rw [hc] at h; cases h; simp at h0
    · rw [Bool.not_eq_true] at hc
      rw [hc] at h ⊢
      simp only [cond_false] at h ⊢
      obtain ⟨hk, h⟩ := ckS h
      rw [hk]
      simp only [ck_true, source_next, Option.bind_some] at h ⊢
      by_cases he : (nextS draws at_ x.W).2.2 = 0
      · rw [nextS_more he]
        simp only [he, if_true, bne_self_eq_false, cond_false] at h ⊢
        cases h
        exact ⟨_, rfl, rfl, rfl, rfl⟩
      · rw [if_neg he] at h
        have hb : ((nextS draws at_ x.W).2.2 != 0) = true := by rw [bne_iff_ne]; exact he
        simp only [hb, cond_true] at h
        cases h
        exact absurd h0 he

theorem chain_add_more (x : api_Chain) (v : Int) (draws more : List Int) {a : api_Chain × Int × chain_source} (h : chain_add x v ⟨draws, 0, 0⟩ = some a) (h0 : a.2.1 = 0) :
    ∃ a', chain_add x v ⟨draws ++ more, 0, 0⟩ = some a' ∧ a'.1 = a.1 ∧ a'.2.1 = 0 ∧ a'.2.2.at_ = a.2.2.at_ := by
  unfold chain_add at h ⊢
  by_cases c1 : (decide (v < -4096) || decide (v > 4096)) = true
  · have := cT c1 h
    cases this; simp at h0
  rw [Bool.not_eq_true] at c1
  rw [c1] at h ⊢
  simp only [cond_false, Int.lt_irrefl, decide_false] at h ⊢
  by_cases c3 : (x.I == 1099511627776) = true
  · have := cT c3 h
    cases this; simp at h0
  rw [Bool.not_eq_true] at c3
  rw [c3] at h ⊢
  simp only [cond_false] at h ⊢
  obtain ⟨k, h⟩ := ckS h
  rw [k]
  obtain ⟨y1, e1, h⟩ := bS h
  rw [e1]
  obtain ⟨y2, e2, h⟩ := bS h
  rw [e1] at e2
  cases e2
  simp only [ck_true, Option.bind_some]
  cases hc : (decide (((([] : List api_Link) ++ x.Links).length : Int) > 0) && (y1.I == w64 (w64 (x.I + 1) - x.W))) with
  | true =>
    replace h := cT hc h
    obtain ⟨k2, h⟩ := ckS h
    rw [k2]
    simp only [cond_true, ck_true]
    exact j_more x v draws more _ _ _ _ h h0
  | false =>
    replace h := cF hc h
    simp only [cond_false, source_next, Option.bind_some] at h ⊢
    by_cases he : (nextS draws 0 (imin (w64 (x.I + 1)) x.W)).2.2 = 0
    · rw [nextS_more he]
      simp only [he, if_true, bne_self_eq_false, cond_false] at h ⊢
      cases hq : (nextS draws 0 (imin (w64 (x.I + 1)) x.W)).1 == 0 with
      | true =>
        rw [hq] at h
        exact j_more x v draws more _ _ _ _ (cT rfl h) h0
      | false =>
        rw [hq] at h
        exact j_more x v draws more _ _ _ _ (cF rfl h) h0
    · rw [if_neg he] at h
      have hb : ((nextS draws 0 (imin (w64 (x.I + 1)) x.W)).2.2 != 0) = true := by rw [bne_iff_ne]; exact he
      simp only [hb, cond_true] at h
      cases h
      exact absurd h0 he

theorem Add_more (x : api_Chain) (v : Int) (draws more : List Int) {r} (h : chain_Add x v draws 0 = some r) (h0 : r.2.2 = 0) : chain_Add x v (draws ++ more) 0 = some r := by
  unfold chain_Add at h ⊢
  obtain ⟨q, hq, h⟩ := bS h
  rw [hq]
  simp only [Option.bind_some]
  cases hc : q != 0 with
  | true => exact cT hc h
  | false =>
    replace h := cF hc h
    obtain ⟨a, ha, h⟩ := bS h
    by_cases he : a.2.1 = 0
    · obtain ⟨a', g1, g2, g3, g4⟩ := chain_add_more x v draws more ha he
      simp only [cond_false, g1, Option.bind_some, g2, g3, g4]
      rw [he] at h
      exact h
    · have hb : (a.2.1 != 0) = true := by rw [bne_iff_ne]; exact he
      have := cT hb h
      cases this
      exact absurd h0 he

theorem law18_ChainWastes_true (p0 : api_Chain) (p1 : Int) (p2 p3 : List Int) (w0 : wf_api_Chain p0) (_ : wfI .i64 p1) (w2 : wfL (wfI .i64) p2) (w3 : wfL (wfI .i64) p3)
    (hs : (p2.length + p3.length) * 8 ≤ 140737488355328) : law18_ChainWastes p0 p1 p2 p3 = some true := by
  have hl : p0.Links.length ≤ maxLen := w0.2.2.2.2.1
  unfold law18_ChainWastes
  simp only [awake18, Option.bind_some]
  cases law18_few p0 with
  | false => rfl
  | true =>
    obtain ⟨r, h1, _⟩ := add_eq p0 p1 p2 0 hl w2.1
    obtain ⟨s, h2, _⟩ := add_eq p0 p1 (p2 ++ p3) 0 hl (by rw [List.length_append, maxLen_eq]; omega)
    have k1 : decide ((([] : List Int).length + p2.length) * 8 ≤ 140737488355328) = true := by rw [decide_eq_true_eq, List.length_nil]; omega
    have k2 : decide ((p2.length + p3.length) * 8 ≤ 140737488355328) = true := by rw [decide_eq_true_eq]; exact hs
    simp only [Bool.not_true, cond_false, h1, Option.bind_some, k1, k2, ck_true, List.nil_append, h2]
    by_cases he : r.2.2 = 0
    · have := Add_more p0 p1 p2 p3 h1 he
      rw [h2] at this
      cases this
      have hr := add_len p0 p1 p2 0 hl w2.1 h1
      simp only [he, bne_self_eq_false, Bool.not_false, beq_self_eq_true, Bool.true_and, gd_true, same_refl r.1 (by rw [maxLen_eq]; omega), Option.bind_some, Bool.false_or]
    · have hb : (r.2.2 != 0) = true := by rw [bne_iff_ne]; exact he
      simp [hb]

theorem law18_ChainWastes_upto (p0 : api_Chain) (p1 : Int) (p2 p3 : List Int) (w0 : wf_api_Chain p0) (w1 : wfI .i64 p1) (w2 : wfL (wfI .i64) p2) (w3 : wfL (wfI .i64) p3)
    (s2 : p2.length ≤ 1048576) (s3 : p3.length ≤ 1048576) : law18_ChainWastes p0 p1 p2 p3 = some true :=
  law18_ChainWastes_true p0 p1 p2 p3 w0 w1 w2 w3 (by omega)

end Go.Win
