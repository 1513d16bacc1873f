/- Pu: computable copies of the functions, made by program (fuel.py). -/
import Derived.Test.YtfnkbbeeilpiiaaPuMade
set_option linter.unusedVariables false
namespace Go.Win
open Go.Vc Go.Dec

def Le {R : Type} (a b : Option R) : Prop := ∀ r, a = some r → b = some r
theorem le_refl {R : Type} (a : Option R) : Le a a := fun _ h => h
theorem le_bind {A R : Type} {a b : Option A} {f g : A → Option R} (h : Le a b) (h2 : ∀ x, Le (f x) (g x)) : Le (Option.bind a f) (Option.bind b g) := by
  intro r e
  cases ha : a with
  | none => rw [ha] at e; cases e
  | some x => rw [ha] at e; rw [h x ha]; exact h2 x r e
theorem le_cond {R : Type} {c : Bool} {a b a' b' : Option R} (h : Le a a') (h2 : Le b b') : Le (cond c a b) (cond c a' b') := by cases c <;> assumption
theorem le_ck {R : Type} {c : Bool} {a a' : Option R} (h : Le a a') : Le (ck c a) (ck c a') := le_cond h (le_refl _)
theorem le_gd {R : Type} [Inhabited R] {c : Bool} {a a' : Option R} (h : Le a a') : Le (gd c a) (gd c a') := le_cond h (le_refl _)
theorem le_map {A R : Type} {a b : Option A} {f : A → R} (h : Le a b) : Le (Option.map f a) (Option.map f b) := by
  intro r e
  cases ha : a with
  | none => rw [ha] at e; cases e
  | some x => rw [ha] at e; rw [h x ha]; exact e
theorem le_loop {S R : Type} {f g : S → Option (S ⊕ R)} (h : ∀ s, Le (f s) (g s)) (n : Nat) (s : S) : Le (loopN f n s) (loop g s) := by
  intro r e
  refine loop_of (n := n) ?_
  induction n generalizing s with
  | zero => cases e
  | succ n ih =>
    unfold loopN at e ⊢
    cases hf : f s with
    | none => rw [hf] at e; cases e
    | some q =>
      rw [hf] at e
      rw [h s q hf]
      cases q with
      | inl s' => exact ih s' e
      | inr r' => exact e

noncomputable def ref18_Same_l3F (p0 : api_Chain) (p1 : api_Chain) (v3_44 : Int) : Option Bool :=
  loopN (fun (s : Int) => ref18_Same_l3s p0 p1 s) 400 v3_44

theorem ref18_Same_l3F_le (p0 : api_Chain) (p1 : api_Chain) (v3_44 : Int) : Le (ref18_Same_l3F p0 p1 v3_44) (ref18_Same_l3 p0 p1 v3_44) := by
  unfold ref18_Same_l3F ref18_Same_l3
  (try dsimp only)
  repeat' (first | with_reducible exact le_refl _ | with_reducible apply le_cond | with_reducible apply le_ck | with_reducible apply le_gd | with_reducible apply le_map | (with_reducible apply le_bind) | (with_reducible refine le_loop (fun s => ?_) _ _) | intro _ | dsimp only)

noncomputable def ref18_SameF (p0 : api_Chain) (p1 : api_Chain) : Option Bool :=
  cond (((((p0.W != p1.W) || (p0.Cap != p1.Cap)) || (p0.I != p1.I)) || (p0.Next != p1.Next)) || ((p0.Links.length : Int) != (p1.Links.length : Int))) (
    some false) <|
  ref18_Same_l3F p0 p1 (0:Int)

theorem ref18_SameF_le (p0 : api_Chain) (p1 : api_Chain) : Le (ref18_SameF p0 p1) (ref18_Same p0 p1) := by
  unfold ref18_SameF ref18_Same
  (try dsimp only)
  repeat' (first | with_reducible exact le_refl _ | with_reducible exact ref18_Same_l3F_le _ _ _ | with_reducible apply le_cond | with_reducible apply le_ck | with_reducible apply le_gd | with_reducible apply le_map | (with_reducible apply le_bind) | (with_reducible refine le_loop (fun s => ?_) _ _) | intro _ | dsimp only)

noncomputable def chain_Validate_l6F (p0 : api_Chain) (v6_60 : Int) : Option Int :=
  loopN (fun (s : Int) => chain_Validate_l6s p0 s) 400 v6_60

theorem chain_Validate_l6F_le (p0 : api_Chain) (v6_60 : Int) : Le (chain_Validate_l6F p0 v6_60) (chain_Validate_l6 p0 v6_60) := by
  unfold chain_Validate_l6F chain_Validate_l6
  (try dsimp only)
  repeat' (first | with_reducible exact le_refl _ | with_reducible apply le_cond | with_reducible apply le_ck | with_reducible apply le_gd | with_reducible apply le_map | (with_reducible apply le_bind) | (with_reducible refine le_loop (fun s => ?_) _ _) | intro _ | dsimp only)

noncomputable def chain_ValidateF (p0 : api_Chain) : Option Int :=
  cond (((((((decide (p0.W < (1:Int))) || (decide (p0.W > (1048576:Int)))) || (decide (p0.Cap < (1:Int)))) || (decide (p0.Cap > (64:Int)))) || (decide (p0.I < (0:Int)))) || (decide (p0.I > (1099511627776:Int)))) || (decide ((p0.Links.length : Int) > p0.Cap))) (
    some (2:Int)) <|
  cond (p0.I == (0:Int)) (
    cond ((decide ((p0.Links.length : Int) > (0:Int))) || (p0.Next != (0:Int))) (
      some (2:Int)) <|
    some (0:Int)) <|
  cond ((p0.Links.length : Int) == (0:Int)) (
    some (2:Int)) <|
  chain_Validate_l6F p0 (0:Int)

theorem chain_ValidateF_le (p0 : api_Chain) : Le (chain_ValidateF p0) (chain_Validate p0) := by
  unfold chain_ValidateF chain_Validate
  (try dsimp only)
  repeat' (first | with_reducible exact le_refl _ | with_reducible exact chain_Validate_l6F_le _ _ | with_reducible apply le_cond | with_reducible apply le_ck | with_reducible apply le_gd | with_reducible apply le_map | (with_reducible apply le_bind) | (with_reducible refine le_loop (fun s => ?_) _ _) | intro _ | dsimp only)

noncomputable def chain_AddF (p0 : api_Chain) (p1 : Int) (p2 : (List Int)) (p3 : Int) : Option (api_Chain × Int × Int) :=
  Option.bind (chain_ValidateF p0) fun y1_1 =>
  cond (y1_1 != (0:Int)) (
    some ((api_Chain.mk (0:Int) (0:Int) (0:Int) (0:Int) ([] : List api_Link)), (0:Int), y1_1)) <|
  Option.bind (chain_add p0 p1 (chain_source.mk p2 p3 (0:Int))) fun y5_3 =>
  cond (y5_3.2.1 != (0:Int)) (
    some ((api_Chain.mk (0:Int) (0:Int) (0:Int) (0:Int) ([] : List api_Link)), (0:Int), y5_3.2.1)) <|
  some (y5_3.1, y5_3.2.2.at_, (0:Int))

theorem chain_AddF_le (p0 : api_Chain) (p1 : Int) (p2 : (List Int)) (p3 : Int) : Le (chain_AddF p0 p1 p2 p3) (chain_Add p0 p1 p2 p3) := by
  unfold chain_AddF chain_Add
  (try dsimp only)
  repeat' (first | with_reducible exact le_refl _ | with_reducible exact chain_ValidateF_le _ | with_reducible apply le_cond | with_reducible apply le_ck | with_reducible apply le_gd | with_reducible apply le_map | (with_reducible apply le_bind) | (with_reducible refine le_loop (fun s => ?_) _ _) | intro _ | dsimp only)

noncomputable def chain_AskF (p0 : api_Chain) : Option (Int × Int) :=
  Option.bind (chain_ValidateF p0) fun y1_1 =>
  cond (y1_1 != (0:Int)) (
    some ((0:Int), y1_1)) <|
  cond ((p0.Links.length : Int) == (0:Int)) (
    some ((0:Int), (7:Int))) <|
  Option.bind (idx p0.Links (0:Int)) fun x6_2 =>
  some (x6_2.V, (0:Int))

theorem chain_AskF_le (p0 : api_Chain) : Le (chain_AskF p0) (chain_Ask p0) := by
  unfold chain_AskF chain_Ask
  (try dsimp only)
  repeat' (first | with_reducible exact le_refl _ | with_reducible exact chain_ValidateF_le _ | with_reducible apply le_cond | with_reducible apply le_ck | with_reducible apply le_gd | with_reducible apply le_map | (with_reducible apply le_bind) | (with_reducible refine le_loop (fun s => ?_) _ _) | intro _ | dsimp only)

noncomputable def law18_awakeF : Option Bool :=
  let y1_0 := (chain_New (2:Int) (5:Int));
  Option.bind (chain_AddF y1_0.1 (7:Int) [(0:Int), (1:Int)] (0:Int)) fun y2_2 =>
  Option.bind (chain_AskF y2_2.1) fun y3_1 =>
  some ((((((y1_0.2 == (0:Int)) && (y2_2.2.2 == (0:Int))) && (y3_1.2 == (0:Int))) && (y2_2.2.1 == (2:Int))) && (y3_1.1 == (7:Int))) && (y2_2.1.Next == (3:Int)))

theorem law18_awakeF_le : Le (law18_awakeF) (law18_awake) := by
  unfold law18_awakeF law18_awake
  (try dsimp only)
  repeat' (first | with_reducible exact le_refl _ | with_reducible exact chain_AddF_le _ _ _ _ | with_reducible exact chain_AskF_le _ | with_reducible apply le_cond | with_reducible apply le_ck | with_reducible apply le_gd | with_reducible apply le_map | (with_reducible apply le_bind) | (with_reducible refine le_loop (fun s => ?_) _ _) | intro _ | dsimp only)

noncomputable def chain_NeedsF (p0 : api_Chain) (p1 : Int) (p2 : (List Int)) (p3 : Int) : Option (Int × Bool) :=
  Option.bind (chain_ValidateF p0) fun y1_1 =>
  cond (y1_1 != (0:Int)) (
    some ((0:Int), false)) <|
  Option.bind (chain_add p0 p1 (chain_source.mk p2 p3 (0:Int))) fun y4_3 =>
  cond ((y4_3.2.1 != (8:Int)) || (y4_3.2.2.beyond_ == (0:Int))) (
    some ((0:Int), false)) <|
  some (y4_3.2.2.beyond_, true)

theorem chain_NeedsF_le (p0 : api_Chain) (p1 : Int) (p2 : (List Int)) (p3 : Int) : Le (chain_NeedsF p0 p1 p2 p3) (chain_Needs p0 p1 p2 p3) := by
  unfold chain_NeedsF chain_Needs
  (try dsimp only)
  repeat' (first | with_reducible exact le_refl _ | with_reducible exact chain_ValidateF_le _ | with_reducible apply le_cond | with_reducible apply le_ck | with_reducible apply le_gd | with_reducible apply le_map | (with_reducible apply le_bind) | (with_reducible refine le_loop (fun s => ?_) _ _) | intro _ | dsimp only)

noncomputable def law18_merged_l6sF (x4_0 : law18_leaf) (v2_3 : (List law18_leaf)) (v2_9 : Int) (v6_6 : Int) : Option (Int ⊕ (((List law18_leaf) × Int) ⊕ (List law18_leaf))) :=
  Option.bind (gd (decide (v6_6 < (v2_3.length : Int))) (idx v2_3 v6_6)) fun x6_7 =>
  Option.bind (gd (decide (v6_6 < (v2_3.length : Int))) (idx v2_3 v6_6)) fun x6_9 =>
  Option.bind (gd (decide (v6_6 < (v2_3.length : Int))) (ref18_SameF x6_9.x_ x4_0.x_)) fun y6_12 =>
  cond ((decide (v6_6 < (v2_3.length : Int))) && (!y6_12)) (
    some (.inl (w64 (v6_6 + (1:Int))))) <|
  Option.map Sum.inr (cond (v6_6 == (v2_3.length : Int)) (
    ck (decide ((v2_3.length + [x4_0].length) * 64 ≤ 140737488355328)) <|
    some (.inl ((v2_3 ++ [x4_0]), (w64 (v2_9 + (1:Int)))))) <|
  Option.bind (idx v2_3 v6_6) fun x10_4 =>
  Option.bind (idx v2_3 v6_6) fun x10_6 =>
  Option.bind (idx v2_3 v6_6) fun x10_10 =>
  Option.bind (idx v2_3 v6_6) fun x10_12 =>
  some (.inl ((v2_3.set (v6_6).toNat (law18_leaf.mk x10_12.x_ (w64 (x10_6.weight_ + x4_0.weight_)))), (w64 (v2_9 + (1:Int))))))

theorem law18_merged_l6sF_le (x4_0 : law18_leaf) (v2_3 : (List law18_leaf)) (v2_9 : Int) (v6_6 : Int) : Le (law18_merged_l6sF x4_0 v2_3 v2_9 v6_6) (law18_merged_l6s x4_0 v2_3 v2_9 v6_6) := by
  unfold law18_merged_l6sF law18_merged_l6s
  (try dsimp only)
  repeat' (first | with_reducible exact le_refl _ | with_reducible exact ref18_SameF_le _ _ | with_reducible apply le_cond | with_reducible apply le_ck | with_reducible apply le_gd | with_reducible apply le_map | (with_reducible apply le_bind) | (with_reducible refine le_loop (fun s => ?_) _ _) | intro _ | dsimp only)

noncomputable def law18_merged_l6F (x4_0 : law18_leaf) (v2_3 : (List law18_leaf)) (v2_9 : Int) (v6_6 : Int) : Option (((List law18_leaf) × Int) ⊕ (List law18_leaf)) :=
  loopN (fun (s : Int) => law18_merged_l6sF x4_0 v2_3 v2_9 s) 400 v6_6

theorem law18_merged_l6F_le (x4_0 : law18_leaf) (v2_3 : (List law18_leaf)) (v2_9 : Int) (v6_6 : Int) : Le (law18_merged_l6F x4_0 v2_3 v2_9 v6_6) (law18_merged_l6 x4_0 v2_3 v2_9 v6_6) := by
  unfold law18_merged_l6F law18_merged_l6
  (try dsimp only)
  repeat' (first | with_reducible exact le_refl _ | with_reducible exact law18_merged_l6sF_le _ _ _ _ | with_reducible apply le_cond | with_reducible apply le_ck | with_reducible apply le_gd | with_reducible apply le_map | (with_reducible apply le_bind) | (with_reducible refine le_loop (fun s => ?_) _ _) | intro _ | dsimp only)

noncomputable def law18_merged_l2sF (p0 : (List law18_leaf)) (v2_3 : (List law18_leaf)) (v2_9 : Int) : Option (((List law18_leaf) × Int) ⊕ (List law18_leaf)) :=
  cond (decide (v2_9 < (p0.length : Int))) (
    Option.bind (idx p0 v2_9) fun x4_0 =>
    law18_merged_l6F x4_0 v2_3 v2_9 (0:Int)) <|
  Option.map Sum.inr (some v2_3)

theorem law18_merged_l2sF_le (p0 : (List law18_leaf)) (v2_3 : (List law18_leaf)) (v2_9 : Int) : Le (law18_merged_l2sF p0 v2_3 v2_9) (law18_merged_l2s p0 v2_3 v2_9) := by
  unfold law18_merged_l2sF law18_merged_l2s
  (try dsimp only)
  repeat' (first | with_reducible exact le_refl _ | with_reducible exact law18_merged_l6F_le _ _ _ _ | with_reducible apply le_cond | with_reducible apply le_ck | with_reducible apply le_gd | with_reducible apply le_map | (with_reducible apply le_bind) | (with_reducible refine le_loop (fun s => ?_) _ _) | intro _ | dsimp only)

noncomputable def law18_merged_l2F (p0 : (List law18_leaf)) (v2_3 : (List law18_leaf)) (v2_9 : Int) : Option (List law18_leaf) :=
  loopN (fun (s : ((List law18_leaf) × Int)) => law18_merged_l2sF p0 s.1 s.2) 400 (v2_3, v2_9)

theorem law18_merged_l2F_le (p0 : (List law18_leaf)) (v2_3 : (List law18_leaf)) (v2_9 : Int) : Le (law18_merged_l2F p0 v2_3 v2_9) (law18_merged_l2 p0 v2_3 v2_9) := by
  unfold law18_merged_l2F law18_merged_l2
  (try dsimp only)
  repeat' (first | with_reducible exact le_refl _ | with_reducible exact law18_merged_l2sF_le _ _ _ | with_reducible apply le_cond | with_reducible apply le_ck | with_reducible apply le_gd | with_reducible apply le_map | (with_reducible apply le_bind) | (with_reducible refine le_loop (fun s => ?_) _ _) | intro _ | dsimp only)

noncomputable def law18_mergedF (p0 : (List law18_leaf)) : Option (List law18_leaf) :=
  law18_merged_l2F p0 ([] : List law18_leaf) (0:Int)

theorem law18_mergedF_le (p0 : (List law18_leaf)) : Le (law18_mergedF p0) (law18_merged p0) := by
  unfold law18_mergedF law18_merged
  (try dsimp only)
  repeat' (first | with_reducible exact le_refl _ | with_reducible exact law18_merged_l2F_le _ _ _ | with_reducible apply le_cond | with_reducible apply le_ck | with_reducible apply le_gd | with_reducible apply le_map | (with_reducible apply le_bind) | (with_reducible refine le_loop (fun s => ?_) _ _) | intro _ | dsimp only)

noncomputable def law18_grow_l13F (x7_5 : (List Int)) (x7_11 : Int) (y9_3 : (Int × Bool)) (v6_4 : (List law18_leaf)) (v13_8 : (List (List Int))) (v13_9 : (List Int)) (v13_17 : Int) : Option (((List law18_leaf) × (List (List Int)) × (List Int)) ⊕ (((List law18_leaf) × Int) ⊕ ((List law18_leaf) × Bool))) :=
  loopN (fun (s : ((List (List Int)) × (List Int) × Int)) => law18_grow_l13s x7_5 x7_11 y9_3 v6_4 s.1 s.2.1 s.2.2) 400 (v13_8, v13_9, v13_17)

theorem law18_grow_l13F_le (x7_5 : (List Int)) (x7_11 : Int) (y9_3 : (Int × Bool)) (v6_4 : (List law18_leaf)) (v13_8 : (List (List Int))) (v13_9 : (List Int)) (v13_17 : Int) : Le (law18_grow_l13F x7_5 x7_11 y9_3 v6_4 v13_8 v13_9 v13_17) (law18_grow_l13 x7_5 x7_11 y9_3 v6_4 v13_8 v13_9 v13_17) := by
  unfold law18_grow_l13F law18_grow_l13
  (try dsimp only)
  repeat' (first | with_reducible exact le_refl _ | with_reducible apply le_cond | with_reducible apply le_ck | with_reducible apply le_gd | with_reducible apply le_map | (with_reducible apply le_bind) | (with_reducible refine le_loop (fun s => ?_) _ _) | intro _ | dsimp only)

noncomputable def law18_grow_l6sF (x3_0 : law18_leaf) (v2_20 : Int) (v6_4 : (List law18_leaf)) (v6_8 : (List (List Int))) (v6_9 : (List Int)) : Option (((List law18_leaf) × (List (List Int)) × (List Int)) ⊕ (((List law18_leaf) × Int) ⊕ ((List law18_leaf) × Bool))) :=
  cond (decide ((v6_8.length : Int) > (0:Int))) (
    Option.bind (idx v6_8 (w64 ((v6_8.length : Int) - (1:Int)))) fun x7_4 =>
    Option.bind (idx v6_8 (w64 ((v6_8.length : Int) - (1:Int)))) fun x7_5 =>
    Option.bind (idx v6_9 (w64 ((v6_9.length : Int) - (1:Int)))) fun x7_10 =>
    Option.bind (idx v6_9 (w64 ((v6_9.length : Int) - (1:Int)))) fun x7_11 =>
    ck (decide (0 ≤ (w64 ((v6_8.length : Int) - (1:Int))) ∧ (w64 ((v6_8.length : Int) - (1:Int))) ≤ (v6_8.length : Int))) <|
    ck (decide (0 ≤ (w64 ((v6_9.length : Int) - (1:Int))) ∧ (w64 ((v6_9.length : Int) - (1:Int))) ≤ (v6_9.length : Int))) <|
    Option.bind (chain_NeedsF x3_0.x_ (0:Int) x7_5 (0:Int)) fun y9_3 =>
    cond (!y9_3.2) (
      Option.bind (chain_AddF x3_0.x_ (0:Int) x7_5 (0:Int)) fun y11_3 =>
      cond ((y11_3.2.2 != (0:Int)) || (y11_3.2.1 != (x7_5.length : Int))) (
        some (.inr (.inr (([] : List law18_leaf), false)))) <|
      ck (decide ((v6_4.length + [(law18_leaf.mk y11_3.1 x7_11)].length) * 64 ≤ 140737488355328)) <|
      some (.inl ((v6_4 ++ [(law18_leaf.mk y11_3.1 x7_11)]), (v6_8.take ((w64 ((v6_8.length : Int) - (1:Int)))).toNat), (v6_9.take ((w64 ((v6_9.length : Int) - (1:Int)))).toNat)))) <|
    cond (((decide (y9_3.1 < (1:Int))) || (decide (y9_3.1 > (12:Int)))) || (decide ((x7_5.length : Int) > (3:Int)))) (
      some (.inr (.inr (([] : List law18_leaf), false)))) <|
    law18_grow_l13F x7_5 x7_11 y9_3 v6_4 (v6_8.take ((w64 ((v6_8.length : Int) - (1:Int)))).toNat) (v6_9.take ((w64 ((v6_9.length : Int) - (1:Int)))).toNat) (0:Int)) <|
  Option.map Sum.inr (some (.inl (v6_4, (w64 (v2_20 + (1:Int))))))

theorem law18_grow_l6sF_le (x3_0 : law18_leaf) (v2_20 : Int) (v6_4 : (List law18_leaf)) (v6_8 : (List (List Int))) (v6_9 : (List Int)) : Le (law18_grow_l6sF x3_0 v2_20 v6_4 v6_8 v6_9) (law18_grow_l6s x3_0 v2_20 v6_4 v6_8 v6_9) := by
  unfold law18_grow_l6sF law18_grow_l6s
  (try dsimp only)
  repeat' (first | with_reducible exact le_refl _ | with_reducible exact chain_AddF_le _ _ _ _ | with_reducible exact chain_NeedsF_le _ _ _ _ | with_reducible exact law18_grow_l13F_le _ _ _ _ _ _ _ | with_reducible apply le_cond | with_reducible apply le_ck | with_reducible apply le_gd | with_reducible apply le_map | (with_reducible apply le_bind) | (with_reducible refine le_loop (fun s => ?_) _ _) | intro _ | dsimp only)

noncomputable def law18_grow_l6F (x3_0 : law18_leaf) (v2_20 : Int) (v6_4 : (List law18_leaf)) (v6_8 : (List (List Int))) (v6_9 : (List Int)) : Option (((List law18_leaf) × Int) ⊕ ((List law18_leaf) × Bool)) :=
  loopN (fun (s : ((List law18_leaf) × (List (List Int)) × (List Int))) => law18_grow_l6sF x3_0 v2_20 s.1 s.2.1 s.2.2) 400 (v6_4, v6_8, v6_9)

theorem law18_grow_l6F_le (x3_0 : law18_leaf) (v2_20 : Int) (v6_4 : (List law18_leaf)) (v6_8 : (List (List Int))) (v6_9 : (List Int)) : Le (law18_grow_l6F x3_0 v2_20 v6_4 v6_8 v6_9) (law18_grow_l6 x3_0 v2_20 v6_4 v6_8 v6_9) := by
  unfold law18_grow_l6F law18_grow_l6
  (try dsimp only)
  repeat' (first | with_reducible exact le_refl _ | with_reducible exact law18_grow_l6sF_le _ _ _ _ _ | with_reducible apply le_cond | with_reducible apply le_ck | with_reducible apply le_gd | with_reducible apply le_map | (with_reducible apply le_bind) | (with_reducible refine le_loop (fun s => ?_) _ _) | intro _ | dsimp only)

noncomputable def law18_grow_l2sF (p0 : (List law18_leaf)) (p1 : Int) (v2_4 : (List law18_leaf)) (v2_20 : Int) : Option (((List law18_leaf) × Int) ⊕ ((List law18_leaf) × Bool)) :=
  cond (decide (v2_20 < (p0.length : Int))) (
    Option.bind (idx p0 v2_20) fun x3_0 =>
    law18_grow_l6F x3_0 v2_20 v2_4 [([] : List Int)] [(w64 (x3_0.weight_ * p1))]) <|
  Option.map Sum.inr (some (v2_4, true))

theorem law18_grow_l2sF_le (p0 : (List law18_leaf)) (p1 : Int) (v2_4 : (List law18_leaf)) (v2_20 : Int) : Le (law18_grow_l2sF p0 p1 v2_4 v2_20) (law18_grow_l2s p0 p1 v2_4 v2_20) := by
  unfold law18_grow_l2sF law18_grow_l2s
  (try dsimp only)
  repeat' (first | with_reducible exact le_refl _ | with_reducible exact law18_grow_l6F_le _ _ _ _ _ | with_reducible apply le_cond | with_reducible apply le_ck | with_reducible apply le_gd | with_reducible apply le_map | (with_reducible apply le_bind) | (with_reducible refine le_loop (fun s => ?_) _ _) | intro _ | dsimp only)

noncomputable def law18_grow_l2F (p0 : (List law18_leaf)) (p1 : Int) (v2_4 : (List law18_leaf)) (v2_20 : Int) : Option ((List law18_leaf) × Bool) :=
  loopN (fun (s : ((List law18_leaf) × Int)) => law18_grow_l2sF p0 p1 s.1 s.2) 400 (v2_4, v2_20)

theorem law18_grow_l2F_le (p0 : (List law18_leaf)) (p1 : Int) (v2_4 : (List law18_leaf)) (v2_20 : Int) : Le (law18_grow_l2F p0 p1 v2_4 v2_20) (law18_grow_l2 p0 p1 v2_4 v2_20) := by
  unfold law18_grow_l2F law18_grow_l2
  (try dsimp only)
  repeat' (first | with_reducible exact le_refl _ | with_reducible exact law18_grow_l2sF_le _ _ _ _ | with_reducible apply le_cond | with_reducible apply le_ck | with_reducible apply le_gd | with_reducible apply le_map | (with_reducible apply le_bind) | (with_reducible refine le_loop (fun s => ?_) _ _) | intro _ | dsimp only)

noncomputable def law18_growF (p0 : (List law18_leaf)) (p1 : Int) : Option ((List law18_leaf) × Bool) :=
  law18_grow_l2F p0 p1 ([] : List law18_leaf) (0:Int)

theorem law18_growF_le (p0 : (List law18_leaf)) (p1 : Int) : Le (law18_growF p0 p1) (law18_grow p0 p1) := by
  unfold law18_growF law18_grow
  (try dsimp only)
  repeat' (first | with_reducible exact le_refl _ | with_reducible exact law18_grow_l2F_le _ _ _ _ | with_reducible apply le_cond | with_reducible apply le_ck | with_reducible apply le_gd | with_reducible apply le_map | (with_reducible apply le_bind) | (with_reducible refine le_loop (fun s => ?_) _ _) | intro _ | dsimp only)

noncomputable def law18_ChainUniform_l14sF (y1_1 : Int) (y2_1 : Int) (v3_8 : Int) (v8_13 : (List Int)) (v14_95 : Int) : Option (Int ⊕ Bool) :=
  cond (decide (v14_95 < (v8_13.length : Int))) (
    Option.bind (idx v8_13 v14_95) fun x28_0 =>
    Option.bind (idx v8_13 v14_95) fun x28_1 =>
    cond ((w64 (x28_1 * (imin (w64 ((1:Int) + y1_1)) (w64 ((1:Int) + y2_1))))) != v3_8) (
      some (.inr false)) <|
    some (.inl (w64 (v14_95 + (1:Int))))) <|
  Option.map Sum.inr (Option.bind law18_awakeF fun y32_0 =>
  some y32_0)

theorem law18_ChainUniform_l14sF_le (y1_1 : Int) (y2_1 : Int) (v3_8 : Int) (v8_13 : (List Int)) (v14_95 : Int) : Le (law18_ChainUniform_l14sF y1_1 y2_1 v3_8 v8_13 v14_95) (law18_ChainUniform_l14s y1_1 y2_1 v3_8 v8_13 v14_95) := by
  unfold law18_ChainUniform_l14sF law18_ChainUniform_l14s
  (try dsimp only)
  repeat' (first | with_reducible exact le_refl _ | with_reducible exact law18_awakeF_le | with_reducible apply le_cond | with_reducible apply le_ck | with_reducible apply le_gd | with_reducible apply le_map | (with_reducible apply le_bind) | (with_reducible refine le_loop (fun s => ?_) _ _) | intro _ | dsimp only)

noncomputable def law18_ChainUniform_l14F (y1_1 : Int) (y2_1 : Int) (v3_8 : Int) (v8_13 : (List Int)) (v14_95 : Int) : Option Bool :=
  loopN (fun (s : Int) => law18_ChainUniform_l14sF y1_1 y2_1 v3_8 v8_13 s) 400 v14_95

theorem law18_ChainUniform_l14F_le (y1_1 : Int) (y2_1 : Int) (v3_8 : Int) (v8_13 : (List Int)) (v14_95 : Int) : Le (law18_ChainUniform_l14F y1_1 y2_1 v3_8 v8_13 v14_95) (law18_ChainUniform_l14 y1_1 y2_1 v3_8 v8_13 v14_95) := by
  unfold law18_ChainUniform_l14F law18_ChainUniform_l14
  (try dsimp only)
  repeat' (first | with_reducible exact le_refl _ | with_reducible exact law18_ChainUniform_l14sF_le _ _ _ _ _ | with_reducible apply le_cond | with_reducible apply le_ck | with_reducible apply le_gd | with_reducible apply le_map | (with_reducible apply le_bind) | (with_reducible refine le_loop (fun s => ?_) _ _) | intro _ | dsimp only)

noncomputable def law18_ChainUniform_l8sF (y1_1 : Int) (y2_1 : Int) (v3_7 : (List law18_leaf)) (v3_8 : Int) (v8_13 : (List Int)) (v8_58 : Int) : Option (((List Int) × Int) ⊕ Bool) :=
  cond (decide (v8_58 < (v3_7.length : Int))) (
    Option.bind (idx v3_7 v8_58) fun x18_0 =>
    cond ((x18_0.x_.Links.length : Int) == (0:Int)) (
      some (.inr false)) <|
    Option.bind (idx x18_0.x_.Links (0:Int)) fun x21_4 =>
    cond ((decide ((w64 ((w64 ((1:Int) + y2_1)) - x21_4.I)) < (0:Int))) || (decide ((w64 ((w64 ((1:Int) + y2_1)) - x21_4.I)) ≥ (imin (w64 ((1:Int) + y1_1)) (w64 ((1:Int) + y2_1)))))) (
      some (.inr false)) <|
    Option.bind (idx v8_13 (w64 ((w64 ((1:Int) + y2_1)) - x21_4.I))) fun x24_4 =>
    Option.bind (idx v8_13 (w64 ((w64 ((1:Int) + y2_1)) - x21_4.I))) fun x24_5 =>
    Option.bind (idx v8_13 (w64 ((w64 ((1:Int) + y2_1)) - x21_4.I))) fun x24_9 =>
    Option.bind (idx v8_13 (w64 ((w64 ((1:Int) + y2_1)) - x21_4.I))) fun x24_10 =>
    some (.inl ((v8_13.set ((w64 ((w64 ((1:Int) + y2_1)) - x21_4.I))).toNat (w64 (x24_5 + x18_0.weight_))), (w64 (v8_58 + (1:Int)))))) <|
  Option.map Sum.inr (law18_ChainUniform_l14F y1_1 y2_1 v3_8 v8_13 (0:Int))

theorem law18_ChainUniform_l8sF_le (y1_1 : Int) (y2_1 : Int) (v3_7 : (List law18_leaf)) (v3_8 : Int) (v8_13 : (List Int)) (v8_58 : Int) : Le (law18_ChainUniform_l8sF y1_1 y2_1 v3_7 v3_8 v8_13 v8_58) (law18_ChainUniform_l8s y1_1 y2_1 v3_7 v3_8 v8_13 v8_58) := by
  unfold law18_ChainUniform_l8sF law18_ChainUniform_l8s
  (try dsimp only)
  repeat' (first | with_reducible exact le_refl _ | with_reducible exact law18_ChainUniform_l14F_le _ _ _ _ _ | with_reducible apply le_cond | with_reducible apply le_ck | with_reducible apply le_gd | with_reducible apply le_map | (with_reducible apply le_bind) | (with_reducible refine le_loop (fun s => ?_) _ _) | intro _ | dsimp only)

noncomputable def law18_ChainUniform_l8F (y1_1 : Int) (y2_1 : Int) (v3_7 : (List law18_leaf)) (v3_8 : Int) (v8_13 : (List Int)) (v8_58 : Int) : Option Bool :=
  loopN (fun (s : ((List Int) × Int)) => law18_ChainUniform_l8sF y1_1 y2_1 v3_7 v3_8 s.1 s.2) 400 (v8_13, v8_58)

theorem law18_ChainUniform_l8F_le (y1_1 : Int) (y2_1 : Int) (v3_7 : (List law18_leaf)) (v3_8 : Int) (v8_13 : (List Int)) (v8_58 : Int) : Le (law18_ChainUniform_l8F y1_1 y2_1 v3_7 v3_8 v8_13 v8_58) (law18_ChainUniform_l8 y1_1 y2_1 v3_7 v3_8 v8_13 v8_58) := by
  unfold law18_ChainUniform_l8F law18_ChainUniform_l8
  (try dsimp only)
  repeat' (first | with_reducible exact le_refl _ | with_reducible exact law18_ChainUniform_l8sF_le _ _ _ _ _ _ | with_reducible apply le_cond | with_reducible apply le_ck | with_reducible apply le_gd | with_reducible apply le_map | (with_reducible apply le_bind) | (with_reducible refine le_loop (fun s => ?_) _ _) | intro _ | dsimp only)

noncomputable def law18_ChainUniform_l3sF (y1_1 : Int) (y2_1 : Int) (v3_7 : (List law18_leaf)) (v3_8 : Int) (v3_9 : Int) : Option (((List law18_leaf) × Int × Int) ⊕ Bool) :=
  cond (decide (v3_9 < (w64 ((1:Int) + y2_1)))) (
    Option.bind (law18_mergedF v3_7) fun y10_1 =>
    Option.bind (law18_growF y10_1 (36:Int)) fun y10_2 =>
    cond (!y10_2.2) (
      some (.inr false)) <|
    some (.inl (y10_2.1, (w64 (v3_8 * (36:Int))), (w64 (v3_9 + (1:Int)))))) <|
  Option.map Sum.inr (ck (decide (0 ≤ (imin (w64 ((1:Int) + y1_1)) (w64 ((1:Int) + y2_1))) ∧ (imin (w64 ((1:Int) + y1_1)) (w64 ((1:Int) + y2_1))) ≤ (imin (w64 ((1:Int) + y1_1)) (w64 ((1:Int) + y2_1))) ∧ (imin (w64 ((1:Int) + y1_1)) (w64 ((1:Int) + y2_1))) * 8 ≤ 140737488355328 ∧ (imin (w64 ((1:Int) + y1_1)) (w64 ((1:Int) + y2_1))) ≤ 140737488355328)) <|
  law18_ChainUniform_l8F y1_1 y2_1 v3_7 v3_8 (List.replicate ((imin (w64 ((1:Int) + y1_1)) (w64 ((1:Int) + y2_1)))).toNat (0:Int)) (0:Int))

theorem law18_ChainUniform_l3sF_le (y1_1 : Int) (y2_1 : Int) (v3_7 : (List law18_leaf)) (v3_8 : Int) (v3_9 : Int) : Le (law18_ChainUniform_l3sF y1_1 y2_1 v3_7 v3_8 v3_9) (law18_ChainUniform_l3s y1_1 y2_1 v3_7 v3_8 v3_9) := by
  unfold law18_ChainUniform_l3sF law18_ChainUniform_l3s
  (try dsimp only)
  repeat' (first | with_reducible exact le_refl _ | with_reducible exact law18_mergedF_le _ | with_reducible exact law18_growF_le _ _ | with_reducible exact law18_ChainUniform_l8F_le _ _ _ _ _ _ | with_reducible apply le_cond | with_reducible apply le_ck | with_reducible apply le_gd | with_reducible apply le_map | (with_reducible apply le_bind) | (with_reducible refine le_loop (fun s => ?_) _ _) | intro _ | dsimp only)

noncomputable def law18_ChainUniform_l3F (y1_1 : Int) (y2_1 : Int) (v3_7 : (List law18_leaf)) (v3_8 : Int) (v3_9 : Int) : Option Bool :=
  loopN (fun (s : ((List law18_leaf) × Int × Int)) => law18_ChainUniform_l3sF y1_1 y2_1 s.1 s.2.1 s.2.2) 400 (v3_7, v3_8, v3_9)

theorem law18_ChainUniform_l3F_le (y1_1 : Int) (y2_1 : Int) (v3_7 : (List law18_leaf)) (v3_8 : Int) (v3_9 : Int) : Le (law18_ChainUniform_l3F y1_1 y2_1 v3_7 v3_8 v3_9) (law18_ChainUniform_l3 y1_1 y2_1 v3_7 v3_8 v3_9) := by
  unfold law18_ChainUniform_l3F law18_ChainUniform_l3
  (try dsimp only)
  repeat' (first | with_reducible exact le_refl _ | with_reducible exact law18_ChainUniform_l3sF_le _ _ _ _ _ | with_reducible apply le_cond | with_reducible apply le_ck | with_reducible apply le_gd | with_reducible apply le_map | (with_reducible apply le_bind) | (with_reducible refine le_loop (fun s => ?_) _ _) | intro _ | dsimp only)

end Go.Win
