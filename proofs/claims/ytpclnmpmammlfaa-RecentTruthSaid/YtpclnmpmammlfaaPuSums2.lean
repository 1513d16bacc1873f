/- Pu: chapter 08: the laws of sums and squares. -/
import Derived.Test.YtpclnmpmammlfaaPuSums
namespace Go.Win
open Go.Vc Go.Dec

/-! ### The reference's total of wide numbers with signs -/

def pT : List api_Wide → List Bool → Int
  | w :: ws, b :: bs => (if b then 0 else wv w) + pT ws bs
  | _, _ => 0
def nT : List api_Wide → List Bool → Int
  | w :: ws, b :: bs => (if b then wv w else 0) + nT ws bs
  | _, _ => 0

theorem ck_pos {α : Type} {b : Bool} {k : Option α} (h : b = true) : ck b k = k := by rw [h]; rfl

def okL (ws : List api_Wide) : Prop := ∀ w ∈ ws, okW w

theorem pT_append : ∀ (a : List api_Wide) (b : List Bool) (w : api_Wide) (c : Bool), a.length = b.length → pT (a ++ [w]) (b ++ [c]) = pT a b + (if c then 0 else wv w)
  | [], [], w, c, _ => by simp [pT]
  | x :: a, y :: b, w, c, h => by
    simp only [List.cons_append, pT]
    rw [pT_append a b w c (by simpa using h)]; omega
  | [], _ :: _, _, _, h => by simp at h
  | _ :: _, [], _, _, h => by simp at h
theorem nT_append : ∀ (a : List api_Wide) (b : List Bool) (w : api_Wide) (c : Bool), a.length = b.length → nT (a ++ [w]) (b ++ [c]) = nT a b + (if c then wv w else 0)
  | [], [], w, c, _ => by simp [nT]
  | x :: a, y :: b, w, c, h => by
    simp only [List.cons_append, nT]
    rw [nT_append a b w c (by simpa using h)]; omega
  | [], _ :: _, _, _, h => by simp at h
  | _ :: _, [], _, _, h => by simp at h

theorem pT_step (ws : List api_Wide) (bs : List Bool) (hl : ws.length = bs.length) {i : Nat} (hi : i < ws.length) :
    pT (ws.take (i + 1)) (bs.take (i + 1)) = pT (ws.take i) (bs.take i) + (if bs[i]'(hl ▸ hi) then 0 else wv ws[i]) := by
  rw [List.take_succ_eq_append_getElem hi, List.take_succ_eq_append_getElem (hl ▸ hi), pT_append _ _ _ _ (by simp only [List.length_take]; omega)]
theorem nT_step (ws : List api_Wide) (bs : List Bool) (hl : ws.length = bs.length) {i : Nat} (hi : i < ws.length) :
    nT (ws.take (i + 1)) (bs.take (i + 1)) = nT (ws.take i) (bs.take i) + (if bs[i]'(hl ▸ hi) then wv ws[i] else 0) := by
  rw [List.take_succ_eq_append_getElem hi, List.take_succ_eq_append_getElem (hl ▸ hi), nT_append _ _ _ _ (by simp only [List.length_take]; omega)]

theorem pT_mono (ws : List api_Wide) (bs : List Bool) (hl : ws.length = bs.length) (h : okL ws) {i : Nat} (hi : i ≤ ws.length) :
    0 ≤ pT (ws.take i) (bs.take i) ∧ pT (ws.take i) (bs.take i) ≤ pT ws bs := by
  have up : ∀ k, i + k ≤ ws.length → pT (ws.take i) (bs.take i) ≤ pT (ws.take (i + k)) (bs.take (i + k)) := by
    intro k
    induction k with
    | zero => intro _; exact Int.le_refl _
    | succ k ih =>
      intro hk
      have := ih (by omega)
      have r := wv_range (h ws[i + k] (List.getElem_mem (by omega)))
      rw [← Nat.add_assoc, pT_step ws bs hl (by omega)]
      split <;> omega
  have dn : ∀ k, k ≤ ws.length → 0 ≤ pT (ws.take k) (bs.take k) := by
    intro k
    induction k with
    | zero => intro _; simp [pT]
    | succ k ih =>
      intro hk
      have := ih (by omega)
      have r := wv_range (h ws[k] (List.getElem_mem (by omega)))
      rw [pT_step ws bs hl (by omega)]
      split <;> omega
  refine ⟨dn i hi, ?_⟩
  have := up (ws.length - i) (by omega)
  rw [show i + (ws.length - i) = ws.length by omega, List.take_length, hl, List.take_length] at this
  exact this
theorem nT_mono (ws : List api_Wide) (bs : List Bool) (hl : ws.length = bs.length) (h : okL ws) {i : Nat} (hi : i ≤ ws.length) :
    0 ≤ nT (ws.take i) (bs.take i) ∧ nT (ws.take i) (bs.take i) ≤ nT ws bs := by
  have up : ∀ k, i + k ≤ ws.length → nT (ws.take i) (bs.take i) ≤ nT (ws.take (i + k)) (bs.take (i + k)) := by
    intro k
    induction k with
    | zero => intro _; exact Int.le_refl _
    | succ k ih =>
      intro hk
      have := ih (by omega)
      have r := wv_range (h ws[i + k] (List.getElem_mem (by omega)))
      rw [← Nat.add_assoc, nT_step ws bs hl (by omega)]
      split <;> omega
  have dn : ∀ k, k ≤ ws.length → 0 ≤ nT (ws.take k) (bs.take k) := by
    intro k
    induction k with
    | zero => intro _; simp [nT]
    | succ k ih =>
      intro hk
      have := ih (by omega)
      have r := wv_range (h ws[k] (List.getElem_mem (by omega)))
      rw [nT_step ws bs hl (by omega)]
      split <;> omega
  refine ⟨dn i hi, ?_⟩
  have := up (ws.length - i) (by omega)
  rw [show i + (ws.length - i) = ws.length by omega, List.take_length, hl, List.take_length] at this
  exact this

theorem ref_total (ws : List api_Wide) (bs : List Bool) (hl : ws.length = bs.length) (h : okL ws) (hm : ws.length ≤ maxLen) :
    ∃ P N ok, ref08_total ws bs = some (P, N, ok) ∧ okW P ∧ okW N ∧
      ok = decide (pT ws bs < 340282366920938463463374607431768211456 ∧ nT ws bs < 340282366920938463463374607431768211456) ∧
      (ok = true → wv P = pT ws bs ∧ wv N = nT ws bs) := by
  unfold ref08_total ref08_total_l2
  obtain ⟨r, hr, hQ⟩ := loop_ind (f := fun s : Bool × Int × Int × Int × Int × Int => ref08_total_l2s ws bs s.1 s.2.1 s.2.2.1 s.2.2.2.1 s.2.2.2.2.1 s.2.2.2.2.2)
    (fun s => ∃ (i : Nat) (P N : api_Wide), i ≤ ws.length ∧ okW P ∧ okW N ∧ s = (s.1, (i : Int), P.Hi, P.Lo, N.Hi, N.Lo) ∧
      (s.1 = true → wv P = pT (ws.take i) (bs.take i) ∧ wv N = nT (ws.take i) (bs.take i)) ∧
      (s.1 = false → 340282366920938463463374607431768211456 ≤ pT (ws.take i) (bs.take i) ∨ 340282366920938463463374607431768211456 ≤ nT (ws.take i) (bs.take i)))
    (fun s => ws.length - s.2.1.toNat)
    (fun r => okW r.1 ∧ okW r.2.1 ∧
      r.2.2 = decide (pT ws bs < 340282366920938463463374607431768211456 ∧ nT ws bs < 340282366920938463463374607431768211456) ∧
      (r.2.2 = true → wv r.1 = pT ws bs ∧ wv r.2.1 = nT ws bs)) (true, 0, 0, 0, 0, 0)
    ⟨0, ⟨0, 0⟩, ⟨0, 0⟩, Nat.zero_le _, by unfold okW; simp, by unfold okW; simp, rfl, by intro _; simp [wv, pT, nT], by intro e; simp at e⟩ (by
      rintro ⟨ok, v, a1, a2, a3, a4⟩ ⟨i, P, N, hi, oP, oN, e, hok, hbad⟩
      simp only [Prod.mk.injEq, true_and] at e
      obtain ⟨rfl, rfl, rfl, rfl, rfl⟩ := e
      simp only at hok hbad ⊢
      unfold ref08_total_l2s
      by_cases hlt : i < ws.length
      · left
        have hltb : i < bs.length := by omega
        have oV := h ws[i] (List.getElem_mem hlt)
        have e1 : (⟨P.Hi, P.Lo⟩ : api_Wide) = P := rfl
        have e2 : (⟨N.Hi, N.Lo⟩ : api_Wide) = N := rfl
        have sp := pT_step ws bs hl hlt
        have sn := nT_step ws bs hl hlt
        have mp := pT_mono ws bs hl h hi
        have mn := nT_mono ws bs hl h hi
        have rv := wv_range oV
        have rp := wv_range oP
        have rn := wv_range oN
        simp only [Int.ofNat_lt, hlt, decide_true, cond_true, idx_nat, get_some hlt, get_some hltb, Option.bind_some, e1, e2, ref_wide_add]
        cases hb : bs[i] with
        | true =>
          rw [hb] at sp sn
          simp only [if_true] at sp sn
          rw [cond_true, wide_add oN oV]
          simp only [Option.bind_some]
          unfold ref08_total_j5
          rw [succ_nat hlt hm]
          by_cases hc : wv N + wv ws[i] < 340282366920938463463374607431768211456
          · rw [if_pos hc]
            refine ⟨_, rfl, ⟨i + 1, P, ofW (wv N + wv ws[i]), hlt, oP, ofW_ok (by omega) hc, by simp, ?_, ?_⟩, by show ws.length - ((i : Int) + 1).toNat < ws.length - (i : Int).toNat; omega⟩
            · intro ht
              simp only [Bool.and_true] at ht
              have := hok ht
              rw [wv_ofW]; omega
            · intro ht
              simp only [Bool.and_true] at ht
              have := hbad ht
              omega
          · rw [if_neg hc]
            refine ⟨_, rfl, ⟨i + 1, P, ⟨0, 0⟩, hlt, oP, by unfold okW; simp, by simp, ?_, ?_⟩, by show ws.length - ((i : Int) + 1).toNat < ws.length - (i : Int).toNat; omega⟩
            · intro ht
              simp at ht
            · intro _
              cases hk : ok with
              | true => have := hok hk; omega
              | false => have := hbad hk; omega
        | false =>
          rw [hb] at sp sn
          simp only [Bool.false_eq_true, if_false] at sp sn
          rw [cond_false, wide_add oP oV]
          simp only [Option.bind_some]
          unfold ref08_total_j5
          rw [succ_nat hlt hm]
          by_cases hc : wv P + wv ws[i] < 340282366920938463463374607431768211456
          · rw [if_pos hc]
            refine ⟨_, rfl, ⟨i + 1, ofW (wv P + wv ws[i]), N, hlt, ofW_ok (by omega) hc, oN, by simp, ?_, ?_⟩, by show ws.length - ((i : Int) + 1).toNat < ws.length - (i : Int).toNat; omega⟩
            · intro ht
              simp only [Bool.and_true] at ht
              have := hok ht
              rw [wv_ofW]; omega
            · intro ht
              simp only [Bool.and_true] at ht
              have := hbad ht
              omega
          · rw [if_neg hc]
            refine ⟨_, rfl, ⟨i + 1, ⟨0, 0⟩, N, hlt, by unfold okW; simp, oN, by simp, ?_, ?_⟩, by show ws.length - ((i : Int) + 1).toNat < ws.length - (i : Int).toNat; omega⟩
            · intro ht
              simp at ht
            · intro _
              cases hk : ok with
              | true => have := hok hk; omega
              | false => have := hbad hk; omega
      · right
        have hn : ¬ ((i : Int) < (ws.length : Int)) := by omega
        have hi2 : i = ws.length := by omega
        subst hi2
        rw [List.take_length, hl, List.take_length] at hok hbad
        simp only [hn, decide_false, cond_false]
        refine ⟨_, rfl, oP, oN, ?_, hok⟩
        have rp := wv_range oP
        have rn := wv_range oN
        cases hk : ok with
        | true => have := hok hk; symm; rw [decide_eq_true_eq]; omega
        | false => have := hbad hk; symm; rw [decide_eq_false_iff_not]; omega)
  obtain ⟨h1, h2, h3, h4⟩ := hQ
  exact ⟨r.1, r.2.1, r.2.2, hr, h1, h2, h3, h4⟩

/-! ### Sum -/

theorem abs_ok {v : Int} (h : -9223372036854775808 ≤ v ∧ v ≤ 9223372036854775807) : okW (ref02_Of (ref01_Abs v)) ∧ wv (ref02_Of (ref01_Abs v)) = if v < 0 then -v else v := by
  rw [abs_abs h.1 h.2]
  unfold okW wv ref02_Of
  simp only
  split <;> omega

noncomputable def absW (l : List api_Item) : List api_Wide := l.map fun p => ref02_Of (ref01_Abs p.V)
def negB (l : List api_Item) : List Bool := l.map fun p => decide (p.V < 0)

theorem pT_items (l : List api_Item) (h : rngI l) : pT (absW l) (negB l) = posS l := by
  induction l with
  | nil => rfl
  | cons p l ih =>
    have h1 := (abs_ok (h p (by simp))).2
    show (if decide (p.V < 0) = true then 0 else wv _) + pT (absW l) (negB l) = _
    rw [ih (fun q hq => h q (by simp [hq])), h1, posS]
    by_cases hv : p.V < 0
    · simp [hv]
    · simp [hv]
theorem nT_items (l : List api_Item) (h : rngI l) : nT (absW l) (negB l) = negS l := by
  induction l with
  | nil => rfl
  | cons p l ih =>
    have h1 := (abs_ok (h p (by simp))).2
    show (if decide (p.V < 0) = true then wv _ else 0) + nT (absW l) (negB l) = _
    rw [ih (fun q hq => h q (by simp [hq])), h1, negS]
    by_cases hv : p.V < 0
    · simp [hv]
    · simp [hv]

theorem ref_sum (l : List api_Item) (h : rngI l) (hl : l.length ≤ 1000) : ref08_Sum l = some (fit (posS l - negS l)) := by
  have hm : l.length ≤ maxLen := by rw [maxLen_eq]; omega
  unfold ref08_Sum ref08_Sum_l2
  obtain ⟨r, hr, hQ⟩ := loop_ind (f := fun s : List api_Wide × List Bool × Int => ref08_Sum_l2s l s.1 s.2.1 s.2.2)
    (fun s => ∃ i : Nat, i ≤ l.length ∧ s = (absW (l.take i), negB (l.take i), (i : Int)))
    (fun s => l.length - s.2.2.toNat) (fun r => r = fit (posS l - negS l)) ([], [], 0) ⟨0, Nat.zero_le _, rfl⟩ (by
      rintro _ ⟨i, hi, rfl⟩
      simp only
      unfold ref08_Sum_l2s
      by_cases hlt : i < l.length
      · left
        simp only [Int.ofNat_lt, hlt, decide_true, cond_true, idx_nat, get_some hlt, Option.bind_some, succ_nat hlt hm]
        have l1 : (absW (l.take i)).length = i := by unfold absW; rw [List.length_map, List.length_take]; omega
        have l2 : (negB (l.take i)).length = i := by unfold negB; rw [List.length_map, List.length_take]; omega
        rw [ck_pos (by rw [decide_eq_true_eq, l1, List.length_singleton]; omega), ck_pos (by rw [decide_eq_true_eq, l2, List.length_singleton]; omega)]
        refine ⟨_, rfl, ⟨i + 1, hlt, ?_⟩, by show l.length - ((i : Int) + 1).toNat < l.length - (i : Int).toNat; omega⟩
        unfold absW negB
        rw [List.take_succ_eq_append_getElem hlt, List.map_append, List.map_append]
        simp
      · right
        have hn : ¬ ((i : Int) < (l.length : Int)) := by omega
        have hi2 : i = l.length := by omega
        subst hi2
        rw [List.take_length]
        have hP := posS_range l h
        have hN := negS_range l h
        obtain ⟨P, N, ok, e1, oP, oN, e2, e3⟩ := ref_total (absW l) (negB l) (by simp [absW, negB]) (by
          intro w hw
          obtain ⟨p, hp, rfl⟩ := List.mem_map.mp hw
          exact (abs_ok (h p hp)).1) (by rw [absW, List.length_map]; exact hm)
        rw [pT_items l h, nT_items l h] at e2 e3
        have ok1 : ok = true := by rw [e2, decide_eq_true_eq]; omega
        have e4 := e3 ok1
        obtain ⟨x, e5, e6⟩ := number_spec oP oN
        rw [e4.1, e4.2] at e5 e6
        simp only [hn, decide_false, cond_false, e1, Option.bind_some, e5]
        unfold fit
        by_cases hf : -9223372036854775808 ≤ posS l - negS l ∧ posS l - negS l ≤ 9223372036854775807
        · rw [decide_eq_true hf, if_pos hf, e6 hf]
          exact ⟨_, rfl, rfl⟩
        · rw [decide_eq_false hf, if_neg hf]
          exact ⟨_, rfl, rfl⟩)
  rw [hr, hQ]

/-! ### Squares -/

def sqS : List api_Item → Int
  | [] => 0
  | p :: l => p.V * p.V + sqS l

theorem sqS_append (a b : List api_Item) : sqS (a ++ b) = sqS a + sqS b := by
  induction a with
  | nil => simp [sqS]
  | cons p a ih => simp only [List.cons_append, sqS, ih]; omega

theorem sq_nn (v : Int) : 0 ≤ v * v := by
  rcases Int.le_total 0 v with h | h
  · exact Int.mul_nonneg h h
  · exact Int.mul_nonneg_of_nonpos_of_nonpos h h

theorem sqS_nn (l : List api_Item) : 0 ≤ sqS l := by
  induction l with
  | nil => simp [sqS]
  | cons p l ih => have := sq_nn p.V; simp only [sqS]; omega

theorem sqS_step (l : List api_Item) {i : Nat} (hi : i < l.length) : sqS (l.take (i + 1)) = sqS (l.take i) + l[i].V * l[i].V := by
  rw [List.take_succ_eq_append_getElem hi, sqS_append]
  simp [sqS]

theorem sqS_mono (l : List api_Item) (i : Nat) : sqS (l.take i) ≤ sqS l := by
  have := sqS_append (l.take i) (l.drop i)
  rw [List.take_append_drop] at this
  have := sqS_nn (l.drop i)
  omega

theorem abs_sq (v : Int) : (if v < 0 then -v else v) * (if v < 0 then -v else v) = v * v := by
  split
  · exact Int.neg_mul_neg v v
  · rfl

noncomputable def sqW (l : List api_Item) : List api_Wide := l.map fun p => ref02_Product (ref01_Abs p.V) (ref01_Abs p.V)

theorem sq_ok {v : Int} (h : -9223372036854775808 ≤ v ∧ v ≤ 9223372036854775807) : okW (ref02_Product (ref01_Abs v) (ref01_Abs v)) ∧ wv (ref02_Product (ref01_Abs v) (ref01_Abs v)) = v * v := by
  have hx : 0 ≤ ref01_Abs v ∧ ref01_Abs v < 18446744073709551616 := by
    rw [abs_abs h.1 h.2]; split <;> omega
  rw [product_eq hx hx]
  have := prod_nn hx hx
  refine ⟨ofW_ok this.1 this.2, ?_⟩
  rw [wv_ofW, abs_abs h.1 h.2, abs_sq]

theorem pT_sq (l : List api_Item) (h : rngI l) : pT (sqW l) (List.replicate l.length false) = sqS l := by
  induction l with
  | nil => rfl
  | cons p l ih =>
    have h1 := (sq_ok (h p (by simp))).2
    show (if false = true then 0 else wv _) + pT (sqW l) (List.replicate l.length false) = _
    rw [ih (fun q hq => h q (by simp [hq])), h1, sqS]
    simp
theorem nT_sq (l : List api_Item) : nT (sqW l) (List.replicate l.length false) = 0 := by
  induction l with
  | nil => rfl
  | cons p l ih =>
    show (if false = true then wv _ else 0) + nT (sqW l) (List.replicate l.length false) = _
    rw [ih]
    simp

theorem ref_squares0 (l : List api_Item) (h : rngI l) (hl : l.length ≤ 1000) :
    ∃ P, ref08_squares l = some (P, decide (sqS l < 340282366920938463463374607431768211456)) ∧ okW P ∧ (sqS l < 340282366920938463463374607431768211456 → wv P = sqS l) := by
  have hm : l.length ≤ maxLen := by rw [maxLen_eq]; omega
  unfold ref08_squares ref08_squares_l2
  obtain ⟨r, hr, hQ⟩ := loop_ind (f := fun s : List api_Wide × Int => ref08_squares_l2s l s.1 s.2)
    (fun s => ∃ i : Nat, i ≤ l.length ∧ s = (sqW (l.take i), (i : Int)))
    (fun s => l.length - s.2.toNat) (fun r => r.2 = decide (sqS l < 340282366920938463463374607431768211456) ∧ okW r.1 ∧ (sqS l < 340282366920938463463374607431768211456 → wv r.1 = sqS l)) ([], 0) ⟨0, Nat.zero_le _, rfl⟩ (by
      rintro _ ⟨i, hi, rfl⟩
      simp only
      unfold ref08_squares_l2s
      have l1 : (sqW (l.take i)).length = i := by unfold sqW; rw [List.length_map, List.length_take]; omega
      by_cases hlt : i < l.length
      · left
        simp only [Int.ofNat_lt, hlt, decide_true, cond_true, idx_nat, get_some hlt, Option.bind_some, succ_nat hlt hm]
        rw [ck_pos (by rw [decide_eq_true_eq, l1, List.length_singleton]; omega)]
        refine ⟨_, rfl, ⟨i + 1, hlt, ?_⟩, by show l.length - ((i : Int) + 1).toNat < l.length - (i : Int).toNat; omega⟩
        unfold sqW
        rw [List.take_succ_eq_append_getElem hlt, List.map_append]
        simp
      · right
        have hn : ¬ ((i : Int) < (l.length : Int)) := by omega
        have hi2 : i = l.length := by omega
        subst hi2
        rw [List.take_length] at *
        obtain ⟨P, N, ok, e1, oP, oN, e2, e3⟩ := ref_total (sqW l) (List.replicate l.length false) (by simp [sqW]) (by
          intro w hw
          obtain ⟨p, hp, rfl⟩ := List.mem_map.mp hw
          exact (sq_ok (h p hp)).1) (by rw [sqW, List.length_map]; exact hm)
        rw [pT_sq l h, nT_sq l] at e2 e3
        simp only [hn, decide_false, cond_false, l1]
        rw [ck_pos (by rw [decide_eq_true_eq]; omega), Int.toNat_natCast, e1]
        simp only [Option.bind_some]
        have e4 : ok = decide (sqS l < 340282366920938463463374607431768211456) := by
          rw [e2, decide_eq_decide]; omega
        refine ⟨_, rfl, e4, oP, fun hh => (e3 (by rw [e4, decide_eq_true_eq]; exact hh)).1⟩)
  exact ⟨r.1, by rw [hr, ← hQ.1], hQ.2.1, hQ.2.2⟩

theorem ref_Squares (l : List api_Item) (h : rngI l) (hl : l.length ≤ 1000) : ref08_Squares l = some (fit (sqS l)) := by
  obtain ⟨P, e1, oP, e2⟩ := ref_squares0 l h hl
  have o0 : okW (api_Wide.mk 0 0) := by unfold okW; simp
  obtain ⟨x, e5, e6⟩ := number_spec oP o0
  have w0 : wv (api_Wide.mk 0 0) = 0 := by simp [wv]
  have hnn := sqS_nn l
  have rP := wv_range oP
  rw [w0] at e5 e6
  unfold ref08_Squares fit
  rw [e1]
  simp only [Option.bind_some]
  rw [e5]
  simp only [Option.bind_some]
  by_cases hb : sqS l < 340282366920938463463374607431768211456
  · have hw := e2 hb
    rw [hw] at e6
    rw [hw, decide_eq_true hb]
    by_cases hf : sqS l ≤ 9223372036854775807
    · rw [decide_eq_true (by omega), if_pos (by omega), e6 (by omega)]
      simp
    · rw [decide_eq_false (by omega), if_neg (by omega)]
      rfl
  · rw [decide_eq_false hb, if_neg (by omega)]
    rfl

theorem num_mul_sq {v : Int} (h : -9223372036854775808 ≤ v ∧ v ≤ 9223372036854775807) : num_Mul v v = fit (v * v) := by
  have hs : num_size v = if v < 0 then -v else v := size_abs h.1 h.2
  have hx : 0 ≤ num_size v ∧ num_size v < 18446744073709551616 := by rw [hs]; split <;> omega
  have hnn := sq_nn v
  unfold num_Mul
  simp only [beq_self_eq_true, Bool.not_true, cond_false]
  rw [mul64 hx hx, hs, abs_sq]
  unfold num_Mul_j1 fit
  simp only [beq_self_eq_true, Bool.not_true, cond_false]
  have := prod_nn hx hx
  rw [hs, abs_sq] at this
  by_cases hf : v * v ≤ 9223372036854775807
  · have c : ((v * v / 18446744073709551616 != 0) || decide (v * v % 18446744073709551616 > 9223372036854775807)) = false := by
      simp only [Bool.or_eq_false_iff, bne_eq_false_iff_eq, decide_eq_false_iff_not]; omega
    rw [c, cond_false, if_pos (by omega)]
    congr 1
    rw [w64_id] <;> omega
  · have c : ((v * v / 18446744073709551616 != 0) || decide (v * v % 18446744073709551616 > 9223372036854775807)) = true := by
      simp only [Bool.or_eq_true, bne_iff_ne, decide_eq_true_eq]; omega
    rw [c, cond_true, if_neg (by omega)]

theorem num_add {a b : Int} (ha : -9223372036854775808 ≤ a ∧ a ≤ 9223372036854775807) (hb : -9223372036854775808 ≤ b ∧ b ≤ 9223372036854775807) : num_Add a b = fit (a + b) := by
  unfold num_Add fit
  rw [w64_eq]
  by_cases hf : -9223372036854775808 ≤ a + b ∧ a + b ≤ 9223372036854775807
  · rw [if_pos hf, show (a + b + 9223372036854775808) % 18446744073709551616 - 9223372036854775808 = a + b by omega]
    have c : ((decide (a ≥ 0) == decide (b ≥ 0)) && !(decide (a + b ≥ 0) == decide (a ≥ 0))) = false := by
      by_cases x1 : a ≥ 0 <;> by_cases x2 : b ≥ 0 <;> by_cases x3 : a + b ≥ 0 <;> simp [x1, x2, x3] <;> omega
    rw [c, cond_false]
  · rw [if_neg hf]
    have c : ((decide (a ≥ 0) == decide (b ≥ 0)) && !(decide ((a + b + 9223372036854775808) % 18446744073709551616 - 9223372036854775808 ≥ 0) == decide (a ≥ 0))) = true := by
      by_cases x1 : a ≥ 0 <;> by_cases x2 : b ≥ 0 <;> by_cases x3 : (a + b + 9223372036854775808) % 18446744073709551616 - 9223372036854775808 ≥ 0 <;> simp [x1, x2, x3] <;> omega
    rw [c, cond_true]

theorem exact_squares (l : List api_Item) (h : rngI l) (hl : l.length ≤ 1000) : exact_Squares l = some (fit (sqS l)) := by
  have hm : l.length ≤ maxLen := by rw [maxLen_eq]; omega
  unfold exact_Squares exact_Squares_l2
  obtain ⟨r, hr, hQ⟩ := loop_ind (f := fun s : Int × Int => exact_Squares_l2s l s.1 s.2)
    (fun s => ∃ i : Nat, i ≤ l.length ∧ s = (sqS (l.take i), (i : Int)) ∧ sqS (l.take i) ≤ 9223372036854775807)
    (fun s => l.length - s.2.toNat) (fun r => r = fit (sqS l)) (0, 0) ⟨0, Nat.zero_le _, rfl, by simp [sqS]⟩ (by
      rintro _ ⟨i, hi, rfl, hb⟩
      simp only
      have hnn := sqS_nn (l.take i)
      unfold exact_Squares_l2s
      by_cases hlt : i < l.length
      · have hr := h l[i] (List.getElem_mem hlt)
        have hq := sq_nn l[i].V
        have st := sqS_step l hlt
        have mo := sqS_mono l (i + 1)
        simp only [Int.ofNat_lt, hlt, decide_true, cond_true, idx_nat, get_some hlt, Option.bind_some, succ_nat hlt hm, num_mul_sq hr]
        by_cases hf : l[i].V * l[i].V ≤ 9223372036854775807
        · have f1 : fit (l[i].V * l[i].V) = (l[i].V * l[i].V, true) := by unfold fit; rw [if_pos (by omega)]
          rw [f1]
          simp only [Bool.not_true, cond_false]
          rw [num_add (by omega) (by omega)]
          by_cases hg : sqS (l.take i) + l[i].V * l[i].V ≤ 9223372036854775807
          · left
            have f2 : fit (sqS (l.take i) + l[i].V * l[i].V) = (sqS (l.take i) + l[i].V * l[i].V, true) := by unfold fit; rw [if_pos (by omega)]
            rw [f2]
            refine ⟨_, rfl, ⟨i + 1, hlt, by simp only [← st, Int.natCast_add, Int.cast_ofNat_Int], by omega⟩, by show l.length - ((i : Int) + 1).toNat < l.length - (i : Int).toNat; omega⟩
          · right
            have f2 : fit (sqS (l.take i) + l[i].V * l[i].V) = (0, false) := by unfold fit; rw [if_neg (by omega)]
            have f3 : fit (sqS l) = (0, false) := by unfold fit; rw [if_neg (by omega)]
            rw [f2, f3]
            exact ⟨_, rfl, rfl⟩
        · right
          have f2 : fit (l[i].V * l[i].V) = (0, false) := by unfold fit; rw [if_neg (by omega)]
          have f3 : fit (sqS l) = (0, false) := by unfold fit; rw [if_neg (by omega)]
          rw [f2, f3]
          exact ⟨_, rfl, rfl⟩
      · right
        have hn : ¬ ((i : Int) < (l.length : Int)) := by omega
        have hi2 : i = l.length := by omega
        subst hi2
        rw [List.take_length] at *
        simp only [hn, decide_false, cond_false]
        have f3 : fit (sqS l) = (sqS l, true) := by unfold fit; rw [if_pos (by omega)]
        exact ⟨_, rfl, f3.symm⟩)
  rw [hr, hQ]

theorem law08_awake_true : law08_awake = some true := by
  unfold law08_awake
  rw [exact_squares _ (by intro p hp; simp at hp; rcases hp with rfl | rfl | rfl <;> simp) (by simp)]
  rfl

theorem rng64 {n : Int} (h : wfI .i64 n) : -9223372036854775808 ≤ n ∧ n ≤ 9223372036854775807 := by
  simp [wfI, Lit.wf, IntKind.min, IntKind.max, IntKind.signed, IntKind.bits] at h
  omega

theorem law08_ExactSums_true (p0 : List api_Item) (h0 : wfL wf_api_Item p0) : law08_ExactSums p0 = some true := by
  have hr : rngI p0 := by
    intro p hp
    exact rng64 (h0.2 p hp).2
  unfold law08_ExactSums
  by_cases hc : (p0.length : Int) > 300
  · rw [decide_eq_true hc, cond_true, law08_awake_true]; rfl
  · have hl : p0.length ≤ 1000 := by omega
    rw [decide_eq_false hc, cond_false, exact_sum _ hr hl, ref_sum _ hr hl, exact_squares _ hr hl, ref_Squares _ hr hl, law08_awake_true]
    simp only [Option.bind_some, exact_Count, beq_self_eq_true, Bool.and_self, gd_true]

end Go.Win
