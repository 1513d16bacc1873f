/- Pu: chapter 18: an item keeps a chain valid. -/
import Derived.Test.YtbolhhoklijnpaaPuTree
namespace Go.Win
open Go.Vc Go.Dec

/-- Ascending places behind a, with gaps of at most W. -/
def asc' (W : Int) : Int → List api_Link → Prop
  | _, [] => True
  | a, l :: ls => a < l.I ∧ l.I ≤ a + W ∧ asc' W l.I ls
def lastI : Int → List api_Link → Int
  | a, [] => a
  | _, l :: ls => lastI l.I ls

theorem asc_get (W : Int) : ∀ (ls : List api_Link) (l : api_Link), asc' W l.I ls → ∀ i (hi : i < ls.length), ((l :: ls)[i]'(by simp; omega)).I < ls[i].I ∧ ls[i].I ≤ ((l :: ls)[i]'(by simp; omega)).I + W
  | [], _, _, i, hi => by simp at hi
  | m :: ls, l, h, i, hi => by
    cases i with
    | zero => exact ⟨h.1, h.2.1⟩
    | succ i =>
      have := asc_get W ls m h.2.2 i (by simpa using hi)
      simpa using this

theorem lastI_get : ∀ (ls : List api_Link) (l : api_Link), ((l :: ls)[ls.length]'(by simp)).I = lastI l.I ls
  | [], l => rfl
  | m :: ls, l => by
    have := lastI_get ls m
    simpa [lastI] using this

theorem asc_append (W : Int) : ∀ (ls : List api_Link) (a : Int) (n : api_Link), asc' W a ls → lastI a ls < n.I → n.I ≤ lastI a ls + W → asc' W a (ls ++ [n])
  | [], a, n, _, h1, h2 => ⟨h1, h2, trivial⟩
  | l :: ls, a, n, h, h1, h2 => ⟨h.1, h.2.1, asc_append W ls l.I n h.2.2 h1 h2⟩
theorem lastI_append : ∀ (ls : List api_Link) (a : Int) (n : api_Link), lastI a (ls ++ [n]) = n.I
  | [], _, _ => rfl
  | l :: ls, _, n => lastI_append ls l.I n
theorem asc_up (W : Int) : ∀ (ls : List api_Link) (a : Int), asc' W a ls → ∀ p ∈ ls, a < p.I
  | [], _, _, p, hp => by simp at hp
  | l :: ls, a, h, p, hp => by
    rcases List.mem_cons.1 hp with rfl | hp
    · exact h.1
    · have := asc_up W ls l.I h.2.2 p hp
      have := h.1
      omega
theorem lastI_le (W : Int) (b : Int) : ∀ (ls : List api_Link) (a : Int), a ≤ b → (∀ p ∈ ls, p.I ≤ b) → lastI a ls ≤ b
  | [], _, h, _ => h
  | l :: ls, _, _, h => lastI_le W b ls l.I (h l (by simp)) fun p hp => h p (by simp [hp])

def okLk (x : api_Chain) (p : api_Link) : Prop := -4096 ≤ p.V ∧ p.V ≤ 4096 ∧ 1 ≤ p.I ∧ p.I ≤ x.I ∧ x.I - x.W < p.I

def rngC (x : api_Chain) : Prop := 1 ≤ x.W ∧ x.W ≤ 1048576 ∧ 1 ≤ x.Cap ∧ x.Cap ≤ 64 ∧ 0 ≤ x.I ∧ x.I ≤ 1099511627776 ∧ (x.Links.length : Int) ≤ x.Cap

def VC (x : api_Chain) : Prop := rngC x ∧ ((x.I = 0 ∧ x.Links = [] ∧ x.Next = 0) ∨
  (x.I ≠ 0 ∧ ∃ l ls, x.Links = l :: ls ∧ (∀ p ∈ x.Links, okLk x p) ∧ asc' x.W l.I ls ∧ x.I < x.Next ∧ x.Next ≤ lastI l.I ls + x.W))

theorem vc_valid (x : api_Chain) (h : VC x) : chain_Validate x = some 0 := by
  obtain ⟨r, h⟩ := h
  unfold rngC at r
  have hl : x.Links.length ≤ maxLen := by rw [maxLen_eq]; omega
  unfold chain_Validate
  rw [loopC x hl]
  have c0 : (((((((decide (x.W < (1:Int))) || (decide (x.W > (1048576:Int)))) || (decide (x.Cap < (1:Int)))) || (decide (x.Cap > (64:Int)))) || (decide (x.I < (0:Int)))) || (decide (x.I > (1099511627776:Int)))) || (decide ((x.Links.length : Int) > x.Cap))) = false := by
    simp only [Bool.or_eq_false_iff, decide_eq_false_iff_not]; omega
  rw [c0, cond_false]
  rcases h with ⟨h1, h2, h3⟩ | ⟨h1, l, ls, h2, h3, h4, h5, h6⟩
  · simp [h1, h2, h3]
  · have c1 : (x.I == 0) = false := by rw [beq_eq_false_iff_ne]; exact h1
    have hp : 0 < x.Links.length := by rw [h2]; simp
    have c2 : ((x.Links.length : Int) == 0) = false := by rw [beq_eq_false_iff_ne]; omega
    rw [c1, c2, cond_false, cond_false]
    have hb : (List.range x.Links.length).any (badC x) = false := by
      rw [Bool.eq_false_iff, ne_eq, any_iff]
      rintro ⟨i, hi, hbad⟩
      unfold badC at hbad
      rw [get_some hi] at hbad
      simp only at hbad
      have ok := h3 x.Links[i] (List.getElem_mem hi)
      unfold okLk at ok
      have w : w64 (x.I - x.W) = x.I - x.W := by rw [w64_id] <;> omega
      rw [w] at hbad
      by_cases h0 : 0 < i
      · have hi2 : i - 1 < x.Links.length := by omega
        rw [get_some hi2] at hbad
        have ok2 := h3 x.Links[i - 1] (List.getElem_mem hi2)
        unfold okLk at ok2
        have w2 : w64 (x.Links[i - 1].I + x.W) = x.Links[i - 1].I + x.W := by rw [w64_id] <;> omega
        have hls : i - 1 < ls.length := by
          have : x.Links.length = ls.length + 1 := by rw [h2]; rfl
          omega
        have g := asc_get x.W ls l h4 (i - 1) hls
        have e1 : x.Links[i - 1] = (l :: ls)[i - 1]'(by simp; omega) := by simp only [h2]
        have e2 : x.Links[i] = ls[i - 1] := by
          have : x.Links[i] = (l :: ls)[i]'(by simp; omega) := by simp only [h2]
          rw [this]
          obtain ⟨j, rfl⟩ : ∃ j, i = j + 1 := ⟨i - 1, by omega⟩
          simp
        rw [← e1, ← e2] at g
        simp only [w2, Bool.or_eq_true, Bool.and_eq_true, decide_eq_true_eq] at hbad
        omega
      · simp only [Bool.or_eq_true, Bool.and_eq_true, decide_eq_true_eq, h0] at hbad
        simp only [false_and, or_false] at hbad
        omega
    rw [hb, cond_false]
    unfold aftC
    rw [pred_nat hp hl, idx_nat, get_some (show x.Links.length - 1 < x.Links.length by omega)]
    have el : (x.Links[x.Links.length - 1]'(by omega)).I = lastI l.I ls := by
      rw [← lastI_get ls l]
      have e : x.Links.length - 1 = ls.length := by rw [h2]; simp
      simp only [h2, List.length_cons, Nat.add_sub_cancel]
    have c3 : decide (x.Next ≤ x.I) = false := by rw [decide_eq_false_iff_not]; omega
    have lr := h3 _ (List.getElem_mem (show x.Links.length - 1 < x.Links.length by omega))
    unfold okLk at lr
    have w3 : w64 ((x.Links[x.Links.length - 1]'(by omega)).I + x.W) = lastI l.I ls + x.W := by rw [w64_id] <;> omega
    have c4 : decide (x.Next > lastI l.I ls + x.W) = false := by rw [decide_eq_false_iff_not]; omega
    simp only [c3, Bool.not_false, gd_true, Option.bind_some, w3, c4, Bool.or_self, cond_false]

/-! ### What holds at all leaves -/

def allT {R : Type} (P : R → Prop) : DT R → Prop
  | .done r => P r
  | .ask m k => ∀ d, 0 ≤ d → d < m → allT P (k d)

theorem run_all {R : Type} {P : R → Prop} (ds : List Int) (t : DT R) (h : allT P t) : ∀ a r a', run t ds a = .ok r a' → P r := by
  induction t with
  | done r0 =>
    intro a r a' he
    have : r0 = r := by unfold run at he; cases he; rfl
    exact this ▸ h
  | ask m k ih =>
    intro a r a' he
    rw [run_askE] at he
    cases hd : ds[a]? with
    | none => rw [hd] at he; cases he
    | some d =>
      rw [hd] at he
      simp only at he
      split at he
      · rename_i hc
        exact ih d (h d hc.1 hc.2) _ _ _ he
      · cases he

/-- What an item makes of a chain. -/
def nextC (x : api_Chain) (v : Int) (o : Option api_Chain) : Prop := ∀ c, o = some c →
  VC c ∧ c.I = x.I + 1 ∧ c.W = x.W ∧ c.Cap = x.Cap ∧ ∀ p ∈ c.Links, p ∈ x.Links ∨ p = ⟨x.I + 1, v⟩

/-- The taken item behind links that are live and in order. -/
theorem tk_new (x : api_Chain) (v : Int) (h : VC x) (hv : -4096 ≤ v ∧ v ≤ 4096) (hI : x.I < 1099511627776) (links : List api_Link)
    (hs : ∀ p ∈ links, p ∈ x.Links) (hlive : ∀ p ∈ links, x.I + 1 - x.W < p.I ∧ okLk x p)
    (hasc : links = [] ∨ ∃ l ls, links = l :: ls ∧ asc' x.W l.I ls ∧ x.I + 1 ≤ lastI l.I ls + x.W) :
    allT (nextC x v) (tkT x v links true) := by
  have r := h.1
  unfold rngC at r
  unfold tkT
  by_cases hc : ((links ++ [api_Link.mk (x.I + 1) v]).length : Int) > x.Cap
  · rw [if_pos hc]
    intro c hcc
    cases hcc
  · rw [if_neg hc]
    intro d h0 h1 c hcc
    cases hcc
    refine ⟨⟨⟨r.1, r.2.1, r.2.2.1, r.2.2.2.1, by show 0 ≤ x.I + 1; omega, by show x.I + 1 ≤ _; omega, by simpa using hc⟩, .inr ⟨by show x.I + 1 ≠ 0; omega, ?_⟩⟩, rfl, rfl, rfl, ?_⟩
    · have all : ∀ p ∈ links ++ [api_Link.mk (x.I + 1) v], okLk ⟨x.W, x.Cap, x.I + 1, x.I + 1 + 1 + d, links ++ [api_Link.mk (x.I + 1) v]⟩ p := by
        intro p hp
        rcases List.mem_append.1 hp with hp | hp
        · have h2 := hlive p hp
          unfold okLk at h2 ⊢
          simp only
          omega
        · simp only [List.mem_singleton] at hp
          subst hp
          unfold okLk
          simp only
          omega
      rcases hasc with rfl | ⟨l, ls, rfl, h2, h3⟩
      · exact ⟨api_Link.mk (x.I + 1) v, [], rfl, all, trivial, by show x.I + 1 < x.I + 1 + 1 + d; omega, by show x.I + 1 + 1 + d ≤ x.I + 1 + x.W; omega⟩
      · have hle : lastI l.I ls ≤ x.I := lastI_le x.W x.I ls l.I (hlive l (by simp)).2.2.2.2.1 fun p hp => (hlive p (by simp [hp])).2.2.2.2.1
        refine ⟨l, ls ++ [api_Link.mk (x.I + 1) v], rfl, all, asc_append _ _ _ _ h2 (by show _ < x.I + 1; omega) (by show x.I + 1 ≤ _; exact h3), by show x.I + 1 < x.I + 1 + 1 + d; omega, ?_⟩
        rw [lastI_append]
        show x.I + 1 + 1 + d ≤ x.I + 1 + x.W
        omega
    · intro p hp
      rcases List.mem_append.1 hp with hp | hp
      · exact .inl (hs p hp)
      · simp only [List.mem_singleton] at hp
        exact .inr hp

/-- The item that is not taken. -/
theorem tk_old (x : api_Chain) (v : Int) (h : VC x) (hI : x.I < 1099511627776) (l : api_Link) (ls : List api_Link) (links : List api_Link) (hl : links = l :: ls)
    (hs : ∀ p ∈ links, p ∈ x.Links) (hlen : (links.length : Int) ≤ x.Cap) (hlive : ∀ p ∈ links, x.I + 1 - x.W < p.I ∧ okLk x p) (hasc : asc' x.W l.I ls)
    (hn : x.I + 1 < x.Next) (hn2 : x.Next ≤ lastI l.I ls + x.W) : allT (nextC x v) (tkT x v links false) := by
  have r := h.1
  unfold rngC at r
  intro c hcc
  cases hcc
  refine ⟨⟨⟨r.1, r.2.1, r.2.2.1, r.2.2.2.1, by show 0 ≤ x.I + 1; omega, by show x.I + 1 ≤ _; omega, hlen⟩, .inr ⟨by show x.I + 1 ≠ 0; omega, l, ls, hl, ?_, hasc, hn, hn2⟩⟩, rfl, rfl, rfl, fun p hp => .inl (hs p hp)⟩
  intro p hp
  have h2 := hlive p hp
  unfold okLk at h2 ⊢
  simp only
  omega

theorem tree_valid (x : api_Chain) (v : Int) (h : VC x) (hv : -4096 ≤ v ∧ v ≤ 4096) (hI : x.I < 1099511627776) : allT (nextC x v) (treeC x v) := by
  have r := h.1
  unfold rngC at r
  unfold treeC
  rcases h.2 with ⟨h1, h2, h3⟩ | ⟨h1, l, ls, h2, h3, h4, h5, h6⟩
  · have ex : expB x = false := by unfold expB; rw [h2]
    rw [ex]
    simp only [Bool.false_eq_true, if_false]
    intro d h0 hd
    have : d = 0 := by
      rw [if_pos (by omega)] at hd
      omega
    subst this
    simp only [if_true]
    exact tk_new x v h hv hI [] (by simp) (by simp) (.inl rfl)
  · have ol := h3 l (by rw [h2]; simp)
    unfold okLk at ol
    have ex : expB x = (l.I == x.I + 1 - x.W) := by unfold expB; rw [h2]
    rw [ex]
    cases he : (l.I == x.I + 1 - x.W) with
    | true =>
      rw [beq_iff_eq] at he
      simp only [if_true, h2, List.drop_succ_cons, List.drop_zero]
      have live : ∀ p ∈ ls, x.I + 1 - x.W < p.I ∧ okLk x p := fun p hp => ⟨by have := asc_up _ _ _ h4 p hp; omega, h3 p (by rw [h2]; simp [hp])⟩
      have sub : ∀ p ∈ ls, p ∈ x.Links := fun p hp => by rw [h2]; simp [hp]
      cases ht : tknB x with
      | true =>
        unfold tknB at ht
        simp only [Bool.and_eq_true, decide_eq_true_eq, beq_iff_eq] at ht
        refine tk_new x v h hv hI ls sub live ?_
        cases ls with
        | nil => exact .inl rfl
        | cons m ms => exact .inr ⟨m, ms, rfl, h4.2.2, by show x.I + 1 ≤ lastI m.I ms + x.W; have : x.Next ≤ lastI m.I ms + x.W := h6; omega⟩
      | false =>
        unfold tknB at ht
        simp only [Bool.and_eq_false_iff, decide_eq_false_iff_not, beq_eq_false_iff_ne] at ht
        have hlen : x.Links.length = ls.length + 1 := by rw [h2]; rfl
        cases ls with
        | nil =>
          have : x.Next ≤ l.I + x.W := h6
          omega
        | cons m ms => exact tk_old x v h hI m ms _ rfl sub (by simp at hlen ⊢; omega) live h4.2.2 (by omega) h6
    | false =>
      rw [beq_eq_false_iff_ne] at he
      simp only [Bool.false_eq_true, if_false]
      intro d h0 hd
      by_cases hz : d = 0
      · simp only [hz, if_true]
        exact tk_new x v h hv hI [] (by simp) (by simp) (.inl rfl)
      · simp only [hz, if_false]
        have live : ∀ p ∈ x.Links, x.I + 1 - x.W < p.I ∧ okLk x p := by
          intro p hp
          refine ⟨?_, h3 p hp⟩
          rw [h2] at hp
          rcases List.mem_cons.1 hp with rfl | hp
          · omega
          · have := asc_up _ _ _ h4 p hp
            omega
        cases ht : tknB x with
        | true =>
          unfold tknB at ht
          simp only [Bool.and_eq_true, decide_eq_true_eq, beq_iff_eq] at ht
          exact tk_new x v h hv hI x.Links (fun p hp => hp) live (.inr ⟨l, ls, h2, h4, by omega⟩)
        | false =>
          unfold tknB at ht
          simp only [Bool.and_eq_false_iff, decide_eq_false_iff_not, beq_eq_false_iff_ne] at ht
          exact tk_old x v h hI l ls _ h2 (fun p hp => hp) r.2.2.2.2.2.2 live h4 (by omega) h6

/-! ### Add and Needs of a valid chain -/

def outA : RR (Option api_Chain) → api_Chain × Int × Int
  | .ok (some c) a => (c, (a : Int), 0)
  | .ok none _ => (zeroC, 0, 9)
  | .need _ _ => (zeroC, 0, 8)
  | .bad _ _ => (zeroC, 0, 8)

theorem value_of {v : Int} (hv : -4096 ≤ v ∧ v ≤ 4096) : ref09_Value v = true := by
  unfold ref09_Value
  simp only [Bool.and_eq_true, decide_eq_true_eq]
  omega

theorem add_run (x : api_Chain) (v : Int) (ds : List Int) (a : Nat) (h : VC x) (hv : -4096 ≤ v ∧ v ≤ 4096) (hI : x.I < 1099511627776) (hd : ds.length ≤ maxLen) :
    chain_Add x v ds (a : Int) = some (outA (run (treeC x v) ds a)) := by
  have r := h.1
  unfold rngC at r
  have hl : x.Links.length ≤ maxLen := by rw [maxLen_eq]; omega
  obtain ⟨q, e1, e2⟩ := add_eq x v ds (a : Int) hl hd
  rw [e1, ← e2]
  unfold ref18_Add
  rw [← validate_eq x hl, vc_valid x h]
  simp only [Option.bind_some, bne_self_eq_false, cond_false]
  rw [step_run x v ds a (value_of hv) hd (by omega) hI (by omega) (by omega) (by omega)]
  cases run (treeC x v) ds a with
  | ok o a' => cases o <;> rfl
  | need m a' => rfl
  | bad m a' => rfl

theorem run_need {R : Type} (ds : List Int) (t : DT R) : ∀ a m a', run t ds a = .need m a' → ds.length ≤ a' := by
  induction t with
  | done r0 => intro a m a' he; unfold run at he; cases he
  | ask m k ih =>
    intro a m' a' he
    rw [run_askE] at he
    cases hd : ds[a]? with
    | none =>
      rw [hd] at he
      cases he
      exact List.getElem?_eq_none_iff.1 hd
    | some d =>
      rw [hd] at he
      simp only at he
      split at he
      · exact ih d _ _ _ he
      · cases he
theorem run_bad {R : Type} (ds : List Int) (t : DT R) : ∀ a m a', run t ds a = .bad m a' → a' < ds.length := by
  induction t with
  | done r0 => intro a m a' he; unfold run at he; cases he
  | ask m k ih =>
    intro a m' a' he
    rw [run_askE] at he
    cases hd : ds[a]? with
    | none => rw [hd] at he; cases he
    | some d =>
      rw [hd] at he
      simp only at he
      split at he
      · exact ih d _ _ _ he
      · cases he
        exact (List.getElem?_eq_some_iff.1 hd).1

def outN {R : Type} : RR R → Int × Bool
  | .need m _ => (m, true)
  | _ => (0, false)

theorem needs_run (x : api_Chain) (v : Int) (ds : List Int) (a : Nat) (h : VC x) (hv : -4096 ≤ v ∧ v ≤ 4096) (hI : x.I < 1099511627776) (hd : ds.length ≤ maxLen) :
    chain_Needs x v ds (a : Int) = some (outN (run (treeC x v) ds a)) := by
  have r := h.1
  unfold rngC at r
  have hl : x.Links.length ≤ maxLen := by rw [maxLen_eq]; omega
  obtain ⟨q, e1, e2⟩ := needs_eq x v ds (a : Int) hl hd
  rw [e1, ← e2]
  unfold ref18_Needs
  rw [← validate_eq x hl, vc_valid x h]
  simp only [Option.bind_some, bne_self_eq_false, cond_false]
  rw [step_run x v ds a (value_of hv) hd (by omega) hI (by omega) (by omega) (by omega)]
  cases he : run (treeC x v) ds a with
  | ok o a' => cases o <;> rfl
  | need m a' =>
    have := run_need ds _ _ _ _ he
    have c : decide ((a' : Int) < (ds.length : Int)) = false := by rw [decide_eq_false_iff_not]; omega
    simp only [outS, Option.bind_some, bne_self_eq_false, c, Bool.or_self, cond_false]
    rfl
  | bad m a' =>
    have := run_bad ds _ _ _ _ he
    have c : decide ((a' : Int) < (ds.length : Int)) = true := by rw [decide_eq_true_eq]; omega
    simp only [outS, Option.bind_some, bne_self_eq_false, c, Bool.false_or, cond_true]
    rfl

end Go.Win
