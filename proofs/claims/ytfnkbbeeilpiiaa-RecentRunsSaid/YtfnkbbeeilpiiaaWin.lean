/- The functions of the program and of the statements, as functions on plain data: made by program out of the translated code. -/
import Derived.Test.YtfnkbbeeilpiiaaVc
set_option linter.unusedVariables false
namespace Go.Win
open Go.Vc Go.Dec

structure api_Item where
  T : Int
  V : Int
  deriving Inhabited
def enc_api_Item (p : api_Item) : List AV := [.int .i64 p.T, .int .i64 p.V]
def wf_api_Item (p : api_Item) : Prop := (wfI .i64) p.T ∧ (wfI .i64) p.V

structure api_Recent where
  W : Int
  Cap : Int
  Now : Int
  Items : (List api_Item)
  deriving Inhabited
def enc_api_Recent (p : api_Recent) : List AV := [.int .i64 p.W, .int .i64 p.Cap, .int .i64 p.Now, .lst 2 false (List.map enc_api_Item p.Items)]
def wf_api_Recent (p : api_Recent) : Prop := (wfI .i64) p.W ∧ (wfI .i64) p.Cap ∧ (wfI .i64) p.Now ∧ (wfL wf_api_Item) p.Items

structure api_Link where
  I : Int
  V : Int
  deriving Inhabited
def enc_api_Link (p : api_Link) : List AV := [.int .i64 p.I, .int .i64 p.V]
def wf_api_Link (p : api_Link) : Prop := (wfI .i64) p.I ∧ (wfI .i64) p.V

structure api_Chain where
  W : Int
  Cap : Int
  I : Int
  Next : Int
  Links : (List api_Link)
  deriving Inhabited
def enc_api_Chain (p : api_Chain) : List AV := [.int .i64 p.W, .int .i64 p.Cap, .int .i64 p.I, .int .i64 p.Next, .lst 2 false (List.map enc_api_Link p.Links)]
def wf_api_Chain (p : api_Chain) : Prop := (wfI .i64) p.W ∧ (wfI .i64) p.Cap ∧ (wfI .i64) p.I ∧ (wfI .i64) p.Next ∧ (wfL wf_api_Link) p.Links

structure chain_source where
  draws_ : (List Int)
  at_ : Int
  beyond_ : Int
  deriving Inhabited
def enc_chain_source (p : chain_source) : List AV := [.lst 1 false (List.map (eI .i64) p.draws_), .int .i64 p.at_, .int .i64 p.beyond_]
def wf_chain_source (p : chain_source) : Prop := (wfL (wfI .i64)) p.draws_ ∧ (wfI .i64) p.at_ ∧ (wfI .i64) p.beyond_

structure law18_leaf where
  x_ : api_Chain
  weight_ : Int
  deriving Inhabited
def enc_law18_leaf (p : law18_leaf) : List AV := [.int .i64 p.x_.W, .int .i64 p.x_.Cap, .int .i64 p.x_.I, .int .i64 p.x_.Next, .lst 2 false (List.map enc_api_Link p.x_.Links), .int .i64 p.weight_]
def wf_law18_leaf (p : law18_leaf) : Prop := wf_api_Chain p.x_ ∧ (wfI .i64) p.weight_

structure made_Tape where
  L : (List Int)
  At : Int
  deriving Inhabited
def enc_made_Tape (p : made_Tape) : List AV := [.lst 1 false (List.map (eI .i64) p.L), .int .i64 p.At]
def wf_made_Tape (p : made_Tape) : Prop := (wfL (wfI .i64)) p.L ∧ (wfI .i64) p.At

noncomputable def clock_tick (p0 : Int) : Bool :=
  ((decide (p0 ≥ (0:Int))) && (decide (p0 ≤ (16777216:Int))))

noncomputable def clock_Advance (p0 : Int) (p1 : Int) : (Int × Int) :=
  let y1_1 := (clock_tick p0);
  cond (!y1_1) (
    ((0:Int), (1:Int))) <|
  cond ((decide (p1 < p0)) || (decide (p1 > (16777216:Int)))) (
    ((0:Int), (3:Int))) <|
  (p1, (0:Int))

noncomputable def clock_First (p0 : Int) (p1 : Int) : Int :=
  let y1_1 := (clock_tick p0);
  cond (((!y1_1) || (decide (p1 < (1:Int)))) || (decide (p1 > (1048576:Int)))) (
    (-1:Int)) <|
  (imax (0:Int) (w64 ((w64 (p0 - p1)) + (1:Int))))

noncomputable def clock_Live (p0 : Int) (p1 : Int) (p2 : Int) : Bool :=
  let y1_2 := (clock_First p0 p1);
  let y2_4 := (clock_tick p2);
  ((((decide (y1_2 ≥ (0:Int))) && y2_4) && (decide (y1_2 ≤ p2))) && (decide (p2 ≤ p0)))

noncomputable def exact_tick (p0 : Int) : Bool :=
  ((decide (p0 ≥ (0:Int))) && (decide (p0 ≤ (16777216:Int))))

noncomputable def exact_Valid_l3s (p0 : (List api_Item)) (p1 : Int) (v3_12 : Int) : Option (Int ⊕ Bool) :=
  cond (decide (v3_12 < (p0.length : Int))) (
    Option.bind (idx p0 v3_12) fun x5_1 =>
    Option.bind (gd ((!((decide (x5_1.T < (0:Int))) || (decide (x5_1.T > p1)))) && (decide (v3_12 > (0:Int)))) (idx p0 (w64 (v3_12 - (1:Int))))) fun x6_16 =>
    cond (((decide (x5_1.T < (0:Int))) || (decide (x5_1.T > p1))) || ((decide (v3_12 > (0:Int))) && (decide (x6_16.T > x5_1.T)))) (
      some (.inr false)) <|
    some (.inl (w64 (v3_12 + (1:Int))))) <|
  Option.map Sum.inr (some true)

noncomputable def exact_Valid_l3 (p0 : (List api_Item)) (p1 : Int) (v3_12 : Int) : Option Bool :=
  loop (fun (s : Int) => exact_Valid_l3s p0 p1 s) v3_12

noncomputable def exact_Valid (p0 : (List api_Item)) (p1 : Int) : Option Bool :=
  let y1_1 := (exact_tick p1);
  cond (!y1_1) (
    some false) <|
  exact_Valid_l3 p0 p1 (0:Int)

noncomputable def exact_Live_l3s (p0 : (List api_Item)) (p1 : Int) (p2 : Int) (v3_7 : (List api_Item)) (v3_16 : Int) : Option (((List api_Item) × Int) ⊕ (List api_Item)) :=
  cond (decide (v3_16 < (p0.length : Int))) (
    Option.bind (idx p0 v3_16) fun x6_0 =>
    let y7_4 := (clock_Live p1 p2 x6_0.T);
    cond y7_4 (
      ck (decide ((v3_7.length + [x6_0].length) * 16 ≤ 140737488355328)) <|
      some (.inl ((v3_7 ++ [x6_0]), (w64 (v3_16 + (1:Int)))))) <|
    some (.inl (v3_7, (w64 (v3_16 + (1:Int)))))) <|
  Option.map Sum.inr (some v3_7)

noncomputable def exact_Live_l3 (p0 : (List api_Item)) (p1 : Int) (p2 : Int) (v3_7 : (List api_Item)) (v3_16 : Int) : Option (List api_Item) :=
  loop (fun (s : ((List api_Item) × Int)) => exact_Live_l3s p0 p1 p2 s.1 s.2) (v3_7, v3_16)

noncomputable def exact_Live (p0 : (List api_Item)) (p1 : Int) (p2 : Int) : Option (List api_Item) :=
  Option.bind (exact_Valid p0 p1) fun y1_2 =>
  cond (!y1_2) (
    some ([] : List api_Item)) <|
  exact_Live_l3 p0 p1 p2 ([] : List api_Item) (0:Int)

noncomputable def recent_good (p0 : Int) (p1 : Int) (p2 : Int) : Bool :=
  ((((((decide (p0 ≥ (1:Int))) && (decide (p0 ≤ (1048576:Int)))) && (decide (p1 ≥ (1:Int)))) && (decide (p1 ≤ (65536:Int)))) && (decide (p2 ≥ (0:Int)))) && (decide (p2 ≤ (16777216:Int))))

noncomputable def recent_value (p0 : Int) : Bool :=
  ((decide (p0 ≥ (-4096:Int))) && (decide (p0 ≤ (4096:Int))))

noncomputable def recent_Validate_l3s (p0 : api_Recent) (v3_32 : Int) : Option (Int ⊕ Int) :=
  cond (decide (v3_32 < (p0.Items.length : Int))) (
    Option.bind (idx p0.Items v3_32) fun x5_0 =>
    let y6_6 := (clock_Live p0.Now p0.W x5_0.T);
    let y6_11 := (recent_value x5_0.V);
    cond ((!y6_6) || (!y6_11)) (
      some (.inr (2:Int))) <|
    some (.inl (w64 (v3_32 + (1:Int))))) <|
  Option.map Sum.inr (some (0:Int))

noncomputable def recent_Validate_l3 (p0 : api_Recent) (v3_32 : Int) : Option Int :=
  loop (fun (s : Int) => recent_Validate_l3s p0 s) v3_32

noncomputable def recent_Validate (p0 : api_Recent) : Option Int :=
  let y1_6 := (recent_good p0.W p0.Cap p0.Now);
  Option.bind (gd (!((!y1_6) || (decide ((p0.Items.length : Int) > p0.Cap)))) (exact_Valid p0.Items p0.Now)) fun y1_21 =>
  cond (((!y1_6) || (decide ((p0.Items.length : Int) > p0.Cap))) || (!y1_21)) (
    some (2:Int)) <|
  recent_Validate_l3 p0 (0:Int)

noncomputable def recent_Add (p0 : api_Recent) (p1 : Int) : Option (api_Recent × Int) :=
  Option.bind (recent_Validate p0) fun y1_1 =>
  cond (y1_1 != (0:Int)) (
    some ((api_Recent.mk (0:Int) (0:Int) (0:Int) ([] : List api_Item)), y1_1)) <|
  let y4_1 := (recent_value p1);
  cond (!y4_1) (
    some ((api_Recent.mk (0:Int) (0:Int) (0:Int) ([] : List api_Item)), (4:Int))) <|
  cond ((p0.Items.length : Int) == p0.Cap) (
    some ((api_Recent.mk (0:Int) (0:Int) (0:Int) ([] : List api_Item)), (5:Int))) <|
  ck (decide (0 ≤ (p0.Items.length : Int) ∧ (p0.Items.length : Int) = (p0.Items.length : Int) ∧ (p0.Items.length : Int) ≤ (p0.Items.length : Int))) <|
  ck (decide ([(api_Item.mk p0.Now p1)] ≠ [] ∧ ((p0.Items.take ((p0.Items.length : Int)).toNat).length + [(api_Item.mk p0.Now p1)].length) * 16 ≤ 140737488355328)) <|
  some ((api_Recent.mk p0.W p0.Cap p0.Now ((p0.Items.take ((p0.Items.length : Int)).toNat) ++ [(api_Item.mk p0.Now p1)])), (0:Int))

noncomputable def recent_New (p0 : Int) (p1 : Int) (p2 : Int) : (api_Recent × Int) :=
  let y1_3 := (recent_good p0 p1 p2);
  cond (!y1_3) (
    ((api_Recent.mk (0:Int) (0:Int) (0:Int) ([] : List api_Item)), (1:Int))) <|
  ((api_Recent.mk p0 p1 p2 ([] : List api_Item)), (0:Int))

noncomputable def law09_awake : Option Bool :=
  let y1_0 := (recent_New (3:Int) (2:Int) (0:Int));
  Option.bind (recent_Add y1_0.1 (5:Int)) fun y2_1 =>
  some (((y1_0.2 == (0:Int)) && (y2_1.2 == (0:Int))) && ((y2_1.1.Items.length : Int) == (1:Int)))

noncomputable def made_Mod (p0 : Int) (p1 : Int) : Option Int :=
  ck (decide (p1 ≠ 0)) <|
  cond (decide ((Int.tmod p0 p1) < (0:Int))) (
    some (w64 ((Int.tmod p0 p1) + p1))) <|
  some (Int.tmod p0 p1)

noncomputable def made_Int (p0 : Int) (p1 : Int) : Option Int :=
  Option.bind (made_Mod p0 p1) fun y1_2 =>
  some y1_2

noncomputable def made_Gap_j3 (p0 : Int) (j3_17 : Bool) : Option Int :=
  cond j3_17 (
    Option.bind (made_Mod (w64 (Int.tdiv p0 (8:Int))) (3:Int)) fun y7_1 =>
    some (w64 ((1:Int) + y7_1))) <|
  some (0:Int)

noncomputable def made_Gap (p0 : Int) (p1 : Int) : Option Int :=
  Option.bind (made_Mod p0 (8:Int)) fun y2_1 =>
  cond (y2_1 == (0:Int)) (
    Option.bind (made_Mod (w64 (Int.tdiv p0 (8:Int))) (w64 ((w64 ((2:Int) * p1)) + (2:Int)))) fun y4_4 =>
    some y4_4) <|
  cond (y2_1 == (1:Int)) (
    made_Gap_j3 p0 (y2_1 == (1:Int))) <|
  made_Gap_j3 p0 (y2_1 == (2:Int))

noncomputable def made_Value (p0 : Int) : Option Int :=
  Option.bind (made_Mod p0 (8:Int)) fun y2_1 =>
  cond (y2_1 == (0:Int)) (
    Option.bind (made_Mod (w64 (Int.tdiv p0 (8:Int))) (8193:Int)) fun y4_1 =>
    some (w64 (y4_1 - (4096:Int)))) <|
  cond (y2_1 == (1:Int)) (
    Option.bind (made_Mod (w64 (Int.tdiv p0 (8:Int))) (2:Int)) fun y6_1 =>
    some (w64 ((4096:Int) * (w64 ((w64 ((2:Int) * y6_1)) - (1:Int)))))) <|
  Option.bind (made_Mod (w64 (Int.tdiv p0 (8:Int))) (13:Int)) fun y7_1 =>
  some (w64 (y7_1 - (6:Int)))

noncomputable def made_Items_l2s (p0 : (List api_Item)) (p1 : Int) (p2 : Int) (v2_7 : (List api_Item)) (v2_8 : Int) (v2_9 : Int) : Option (((List api_Item) × Int × Int) ⊕ (List api_Item)) :=
  cond ((decide (v2_9 < (p0.length : Int))) && (decide (v2_9 < p2))) (
    Option.bind (idx p0 v2_9) fun x6_3 =>
    Option.bind (made_Gap x6_3.T p1) fun y6_7 =>
    Option.bind (idx p0 v2_9) fun x7_4 =>
    Option.bind (made_Value x7_4.V) fun y7_7 =>
    ck (decide ((v2_7.length + [(api_Item.mk (w64 (v2_8 + y6_7)) y7_7)].length) * 16 ≤ 140737488355328)) <|
    some (.inl ((v2_7 ++ [(api_Item.mk (w64 (v2_8 + y6_7)) y7_7)]), (w64 (v2_8 + y6_7)), (w64 (v2_9 + (1:Int)))))) <|
  Option.map Sum.inr (some v2_7)

noncomputable def made_Items_l2 (p0 : (List api_Item)) (p1 : Int) (p2 : Int) (v2_7 : (List api_Item)) (v2_8 : Int) (v2_9 : Int) : Option (List api_Item) :=
  loop (fun (s : ((List api_Item) × Int × Int)) => made_Items_l2s p0 p1 p2 s.1 s.2.1 s.2.2) (v2_7, v2_8, v2_9)

noncomputable def made_Items (p0 : (List api_Item)) (p1 : Int) (p2 : Int) : Option (List api_Item) :=
  made_Items_l2 p0 p1 p2 ([] : List api_Item) (0:Int) (0:Int)

noncomputable def made_Live_l2s (p0 : (List api_Item)) (p1 : Int) (p2 : Int) (v2_7 : (List api_Item)) (v2_12 : Int) : Option (((List api_Item) × Int) ⊕ (List api_Item)) :=
  cond (decide (v2_12 < (p0.length : Int))) (
    Option.bind (idx p0 v2_12) fun x4_0 =>
    cond ((decide (x4_0.T > (w64 (p1 - p2)))) && (decide (x4_0.T ≤ p1))) (
      ck (decide ((v2_7.length + [x4_0].length) * 16 ≤ 140737488355328)) <|
      some (.inl ((v2_7 ++ [x4_0]), (w64 (v2_12 + (1:Int)))))) <|
    some (.inl (v2_7, (w64 (v2_12 + (1:Int)))))) <|
  Option.map Sum.inr (some v2_7)

noncomputable def made_Live_l2 (p0 : (List api_Item)) (p1 : Int) (p2 : Int) (v2_7 : (List api_Item)) (v2_12 : Int) : Option (List api_Item) :=
  loop (fun (s : ((List api_Item) × Int)) => made_Live_l2s p0 p1 p2 s.1 s.2) (v2_7, v2_12)

noncomputable def made_Live (p0 : (List api_Item)) (p1 : Int) (p2 : Int) : Option (List api_Item) :=
  made_Live_l2 p0 p1 p2 ([] : List api_Item) (0:Int)

noncomputable def recent_Advance (p0 : api_Recent) (p1 : Int) : Option (api_Recent × Int) :=
  Option.bind (recent_Validate p0) fun y1_1 =>
  cond (y1_1 != (0:Int)) (
    some ((api_Recent.mk (0:Int) (0:Int) (0:Int) ([] : List api_Item)), y1_1)) <|
  let y4_3 := (clock_Advance p0.Now p1);
  cond (y4_3.2 != (0:Int)) (
    some ((api_Recent.mk (0:Int) (0:Int) (0:Int) ([] : List api_Item)), y4_3.2)) <|
  Option.bind (exact_Live p0.Items p1 p0.W) fun y8_5 =>
  some ((api_Recent.mk p0.W p0.Cap p1 y8_5), (0:Int))

noncomputable def ref05_SameItems_l3s (p0 : (List api_Item)) (p1 : (List api_Item)) (v3_13 : Int) : Option (Int ⊕ Bool) :=
  cond (decide (v3_13 < (p0.length : Int))) (
    Option.bind (idx p0 v3_13) fun x6_2 =>
    Option.bind (idx p1 v3_13) fun x6_6 =>
    cond (!(x6_2.T == x6_6.T && (x6_2.V == x6_6.V && true))) (
      some (.inr false)) <|
    some (.inl (w64 (v3_13 + (1:Int))))) <|
  Option.map Sum.inr (some true)

noncomputable def ref05_SameItems_l3 (p0 : (List api_Item)) (p1 : (List api_Item)) (v3_13 : Int) : Option Bool :=
  loop (fun (s : Int) => ref05_SameItems_l3s p0 p1 s) v3_13

noncomputable def ref05_SameItems (p0 : (List api_Item)) (p1 : (List api_Item)) : Option Bool :=
  cond ((p0.length : Int) != (p1.length : Int)) (
    some false) <|
  ref05_SameItems_l3 p0 p1 (0:Int)

noncomputable def law09_RecentRuns_j8 (v3_32 : Int) (j8_9 : (List api_Item)) (j8_b1000000518_0 : Int) (j8_b1000000518_1 : Int) (j8_b1000000518_2 : Int) (j8_b1000000518_3 : (List api_Item)) : Option (((List api_Item) × Int × Int × Int × Int × (List api_Item)) ⊕ Bool) :=
  Option.bind (ref05_SameItems j8_b1000000518_3 j8_9) fun y18_3 =>
  cond (!y18_3) (
    some (.inr false)) <|
  some (.inl (j8_9, (w64 (v3_32 + (1:Int))), j8_b1000000518_0, j8_b1000000518_1, j8_b1000000518_2, j8_b1000000518_3))

noncomputable def law09_RecentRuns_l3s (y1_1 : Int) (y1_4 : Int) (y6_2 : (List api_Item)) (v3_9 : (List api_Item)) (v3_32 : Int) (v3_b1000000518_0 : Int) (v3_b1000000518_1 : Int) (v3_b1000000518_2 : Int) (v3_b1000000518_3 : (List api_Item)) : Option (((List api_Item) × Int × Int × Int × Int × (List api_Item)) ⊕ Bool) :=
  cond (decide (v3_32 < (y6_2.length : Int))) (
    Option.bind (idx y6_2 v3_32) fun x8_0 =>
    Option.bind (recent_Advance (api_Recent.mk v3_b1000000518_0 v3_b1000000518_1 v3_b1000000518_2 v3_b1000000518_3) x8_0.T) fun y9_3 =>
    cond (y9_3.2 != (0:Int)) (
      some (.inr false)) <|
    Option.bind (made_Live v3_9 x8_0.T (w64 ((1:Int) + y1_1))) fun y12_4 =>
    Option.bind (recent_Add y9_3.1 x8_0.V) fun y13_3 =>
    cond ((!((y13_3.2 == (5:Int)) == ((y12_4.length : Int) == (w64 ((1:Int) + y1_4))))) || ((y13_3.2 != (0:Int)) && (y13_3.2 != (5:Int)))) (
      some (.inr false)) <|
    cond (y13_3.2 == (0:Int)) (
      ck (decide ((([] : List api_Item).length + y12_4.length) * 16 ≤ 140737488355328)) <|
      ck (decide (((([] : List api_Item) ++ y12_4).length + [x8_0].length) * 16 ≤ 140737488355328)) <|
      law09_RecentRuns_j8 v3_32 ((([] : List api_Item) ++ y12_4) ++ [x8_0]) y13_3.1.W y13_3.1.Cap y13_3.1.Now y13_3.1.Items) <|
    law09_RecentRuns_j8 v3_32 y12_4 y9_3.1.W y9_3.1.Cap y9_3.1.Now y9_3.1.Items) <|
  Option.map Sum.inr (Option.bind law09_awake fun y21_0 =>
  some y21_0)

noncomputable def law09_RecentRuns_l3 (y1_1 : Int) (y1_4 : Int) (y6_2 : (List api_Item)) (v3_9 : (List api_Item)) (v3_32 : Int) (v3_b1000000518_0 : Int) (v3_b1000000518_1 : Int) (v3_b1000000518_2 : Int) (v3_b1000000518_3 : (List api_Item)) : Option Bool :=
  loop (fun (s : ((List api_Item) × Int × Int × Int × Int × (List api_Item))) => law09_RecentRuns_l3s y1_1 y1_4 y6_2 s.1 s.2.1 s.2.2.1 s.2.2.2.1 s.2.2.2.2.1 s.2.2.2.2.2) (v3_9, v3_32, v3_b1000000518_0, v3_b1000000518_1, v3_b1000000518_2, v3_b1000000518_3)

noncomputable def law09_RecentRuns (p0 : (List api_Item)) (p1 : Int) (p2 : Int) : Option Bool :=
  Option.bind (made_Mod p1 (20:Int)) fun y1_1 =>
  Option.bind (made_Int p2 (30:Int)) fun y1_4 =>
  let y2_2 := (recent_New (w64 ((1:Int) + y1_1)) (w64 ((1:Int) + y1_4)) (0:Int));
  cond (y2_2.2 != (0:Int)) (
    some false) <|
  Option.bind (made_Items p0 (w64 ((1:Int) + y1_1)) (60:Int)) fun y6_2 =>
  law09_RecentRuns_l3 y1_1 y1_4 y6_2 ([] : List api_Item) (0:Int) y2_2.1.W y2_2.1.Cap y2_2.1.Now y2_2.1.Items

noncomputable def law09_few (p0 : api_Recent) : Bool :=
  (decide ((p0.Items.length : Int) ≤ (200:Int)))

noncomputable def ref06_Tick (p0 : Int) : Bool :=
  ((decide (p0 ≥ (0:Int))) && (decide (p0 ≤ (16777216:Int))))

noncomputable def ref06_Window (p0 : Int) : Bool :=
  ((decide (p0 ≥ (1:Int))) && (decide (p0 ≤ (1048576:Int))))

noncomputable def ref06_Live (p0 : Int) (p1 : Int) (p2 : Int) : Bool :=
  let y1_1 := (ref06_Tick p0);
  let y1_4 := (ref06_Window p1);
  let y1_8 := (ref06_Tick p2);
  ((((y1_1 && y1_4) && y1_8) && (decide (p2 > (w64 (p0 - p1))))) && (decide (p2 ≤ p0)))

noncomputable def ref08_Valid_l3s (p0 : (List api_Item)) (p1 : Int) (v3_12 : Int) : Option (Int ⊕ Bool) :=
  cond (decide (v3_12 < (p0.length : Int))) (
    Option.bind (idx p0 v3_12) fun x5_1 =>
    Option.bind (gd ((!((decide (x5_1.T < (0:Int))) || (decide (x5_1.T > p1)))) && (decide (v3_12 > (0:Int)))) (idx p0 (w64 (v3_12 - (1:Int))))) fun x6_16 =>
    cond (((decide (x5_1.T < (0:Int))) || (decide (x5_1.T > p1))) || ((decide (v3_12 > (0:Int))) && (decide (x6_16.T > x5_1.T)))) (
      some (.inr false)) <|
    some (.inl (w64 (v3_12 + (1:Int))))) <|
  Option.map Sum.inr (some true)

noncomputable def ref08_Valid_l3 (p0 : (List api_Item)) (p1 : Int) (v3_12 : Int) : Option Bool :=
  loop (fun (s : Int) => ref08_Valid_l3s p0 p1 s) v3_12

noncomputable def ref08_Valid (p0 : (List api_Item)) (p1 : Int) : Option Bool :=
  let y1_1 := (ref06_Tick p1);
  cond (!y1_1) (
    some false) <|
  ref08_Valid_l3 p0 p1 (0:Int)

noncomputable def ref09_May (p0 : Int) (p1 : Int) (p2 : Int) : Bool :=
  let y1_1 := (ref06_Window p0);
  let y1_12 := (ref06_Tick p2);
  (((y1_1 && (decide (p1 ≥ (1:Int)))) && (decide (p1 ≤ (65536:Int)))) && y1_12)

noncomputable def ref09_Value (p0 : Int) : Bool :=
  ((decide (p0 ≥ (-4096:Int))) && (decide (p0 ≤ (4096:Int))))

noncomputable def ref09_Validate_l3s (p0 : api_Recent) (v3_32 : Int) : Option (Int ⊕ Int) :=
  cond (decide (v3_32 < (p0.Items.length : Int))) (
    Option.bind (idx p0.Items v3_32) fun x5_0 =>
    let y6_6 := (ref06_Live p0.Now p0.W x5_0.T);
    let y6_11 := (ref09_Value x5_0.V);
    cond ((!y6_6) || (!y6_11)) (
      some (.inr (2:Int))) <|
    some (.inl (w64 (v3_32 + (1:Int))))) <|
  Option.map Sum.inr (some (0:Int))

noncomputable def ref09_Validate_l3 (p0 : api_Recent) (v3_32 : Int) : Option Int :=
  loop (fun (s : Int) => ref09_Validate_l3s p0 s) v3_32

noncomputable def ref09_Validate (p0 : api_Recent) : Option Int :=
  let y1_6 := (ref09_May p0.W p0.Cap p0.Now);
  Option.bind (gd (!((!y1_6) || (decide ((p0.Items.length : Int) > p0.Cap)))) (ref08_Valid p0.Items p0.Now)) fun y1_21 =>
  cond (((!y1_6) || (decide ((p0.Items.length : Int) > p0.Cap))) || (!y1_21)) (
    some (2:Int)) <|
  ref09_Validate_l3 p0 (0:Int)

noncomputable def ref09_Add (p0 : api_Recent) (p1 : Int) : Option (api_Recent × Int) :=
  Option.bind (ref09_Validate p0) fun y1_1 =>
  cond (y1_1 != (0:Int)) (
    some ((api_Recent.mk (0:Int) (0:Int) (0:Int) ([] : List api_Item)), y1_1)) <|
  let y4_1 := (ref09_Value p1);
  cond (!y4_1) (
    some ((api_Recent.mk (0:Int) (0:Int) (0:Int) ([] : List api_Item)), (4:Int))) <|
  cond ((p0.Items.length : Int) == p0.Cap) (
    some ((api_Recent.mk (0:Int) (0:Int) (0:Int) ([] : List api_Item)), (5:Int))) <|
  ck (decide ((([] : List api_Item).length + p0.Items.length) * 16 ≤ 140737488355328)) <|
  ck (decide (((([] : List api_Item) ++ p0.Items).length + [(api_Item.mk p0.Now p1)].length) * 16 ≤ 140737488355328)) <|
  some ((api_Recent.mk p0.W p0.Cap p0.Now ((([] : List api_Item) ++ p0.Items) ++ [(api_Item.mk p0.Now p1)])), (0:Int))

noncomputable def ref06_Back (p0 : Int) (p1 : Int) : Int :=
  cond ((decide (p1 < p0)) || (decide (p1 > (16777216:Int)))) (
    (3:Int)) <|
  (0:Int)

noncomputable def ref08_Live_l3s (p0 : (List api_Item)) (p1 : Int) (p2 : Int) (v3_7 : (List api_Item)) (v3_21 : Int) : Option (((List api_Item) × Int) ⊕ (List api_Item)) :=
  cond (decide (v3_21 < (p0.length : Int))) (
    Option.bind (idx p0 v3_21) fun x6_0 =>
    let y7_4 := (ref06_Live p1 p2 x6_0.T);
    cond y7_4 (
      ck (decide ((v3_7.length + [x6_0].length) * 16 ≤ 140737488355328)) <|
      some (.inl ((v3_7 ++ [x6_0]), (w64 (v3_21 + (1:Int)))))) <|
    some (.inl (v3_7, (w64 (v3_21 + (1:Int)))))) <|
  Option.map Sum.inr (some v3_7)

noncomputable def ref08_Live_l3 (p0 : (List api_Item)) (p1 : Int) (p2 : Int) (v3_7 : (List api_Item)) (v3_21 : Int) : Option (List api_Item) :=
  loop (fun (s : ((List api_Item) × Int)) => ref08_Live_l3s p0 p1 p2 s.1 s.2) (v3_7, v3_21)

noncomputable def ref08_Live (p0 : (List api_Item)) (p1 : Int) (p2 : Int) : Option (List api_Item) :=
  Option.bind (ref08_Valid p0 p1) fun y1_2 =>
  let y1_6 := (ref06_Window p2);
  cond ((!y1_2) || (!y1_6)) (
    some ([] : List api_Item)) <|
  ref08_Live_l3 p0 p1 p2 ([] : List api_Item) (0:Int)

noncomputable def ref09_Advance (p0 : api_Recent) (p1 : Int) : Option (api_Recent × Int) :=
  Option.bind (ref09_Validate p0) fun y1_1 =>
  cond (y1_1 != (0:Int)) (
    some ((api_Recent.mk (0:Int) (0:Int) (0:Int) ([] : List api_Item)), y1_1)) <|
  let y4_3 := (ref06_Back p0.Now p1);
  cond (y4_3 != (0:Int)) (
    some ((api_Recent.mk (0:Int) (0:Int) (0:Int) ([] : List api_Item)), y4_3)) <|
  Option.bind (ref08_Live p0.Items p1 p0.W) fun y7_10 =>
  some ((api_Recent.mk p0.W p0.Cap p1 y7_10), (0:Int))

noncomputable def ref09_Same (p0 : api_Recent) (p1 : api_Recent) : Option Bool :=
  Option.bind (gd (((p0.W == p1.W) && (p0.Cap == p1.Cap)) && (p0.Now == p1.Now)) (ref05_SameItems p0.Items p1.Items)) fun y1_24 =>
  some ((((p0.W == p1.W) && (p0.Cap == p1.Cap)) && (p0.Now == p1.Now)) && y1_24)

noncomputable def law09_RecentStates (p0 : api_Recent) (p1 : Int) (p2 : Int) : Option Bool :=
  let y1_1 := (law09_few p0);
  cond (!y1_1) (
    Option.bind law09_awake fun y2_0 =>
    some y2_0) <|
  Option.bind (recent_Advance p0 p1) fun y3_2 =>
  Option.bind (ref09_Advance p0 p1) fun y4_2 =>
  Option.bind (recent_Add p0 p2) fun y5_2 =>
  Option.bind (ref09_Add p0 p2) fun y6_2 =>
  Option.bind (recent_Validate p0) fun y7_1 =>
  Option.bind (ref09_Validate p0) fun y7_3 =>
  Option.bind (gd (y7_1 == y7_3) (ref09_Same y3_2.1 y4_2.1)) fun y7_8 =>
  Option.bind (gd (((y7_1 == y7_3) && y7_8) && (y3_2.2 == y4_2.2)) (ref09_Same y5_2.1 y6_2.1)) fun y7_18 =>
  Option.bind (gd (((((y7_1 == y7_3) && y7_8) && (y3_2.2 == y4_2.2)) && y7_18) && (y5_2.2 == y6_2.2)) law09_awake) fun y7_26 =>
  some ((((((y7_1 == y7_3) && y7_8) && (y3_2.2 == y4_2.2)) && y7_18) && (y5_2.2 == y6_2.2)) && y7_26)

end Go.Win
