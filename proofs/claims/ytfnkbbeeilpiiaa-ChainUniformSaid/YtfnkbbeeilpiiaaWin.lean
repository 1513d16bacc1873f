/- The functions of the program and of the statements, as functions on plain data: made by program out of the translated code. -/
import Derived.Test.YtfnkbbeeilpiiaaVc
set_option linter.unusedVariables false
namespace Go.Win
open Go.Vc Go.Dec

structure api_Link where
  I : Int
  V : Int
  deriving Inhabited
def enc_api_Link (p : api_Link) : List AV := [.int .i64 p.I, .int .i64 p.V]
def wf_api_Link (p : api_Link) : Prop := (wfI .i64) p.I ∧ (wfI .i64) p.V

structure api_Chain where
  W : Int
  Cap : Int
  I : Int
  Next : Int
  Links : (List api_Link)
  deriving Inhabited
def enc_api_Chain (p : api_Chain) : List AV := [.int .i64 p.W, .int .i64 p.Cap, .int .i64 p.I, .int .i64 p.Next, .lst 2 false (List.map enc_api_Link p.Links)]
def wf_api_Chain (p : api_Chain) : Prop := (wfI .i64) p.W ∧ (wfI .i64) p.Cap ∧ (wfI .i64) p.I ∧ (wfI .i64) p.Next ∧ (wfL wf_api_Link) p.Links

structure api_Item where
  T : Int
  V : Int
  deriving Inhabited
def enc_api_Item (p : api_Item) : List AV := [.int .i64 p.T, .int .i64 p.V]
def wf_api_Item (p : api_Item) : Prop := (wfI .i64) p.T ∧ (wfI .i64) p.V

structure api_Recent where
  W : Int
  Cap : Int
  Now : Int
  Items : (List api_Item)
  deriving Inhabited
def enc_api_Recent (p : api_Recent) : List AV := [.int .i64 p.W, .int .i64 p.Cap, .int .i64 p.Now, .lst 2 false (List.map enc_api_Item p.Items)]
def wf_api_Recent (p : api_Recent) : Prop := (wfI .i64) p.W ∧ (wfI .i64) p.Cap ∧ (wfI .i64) p.Now ∧ (wfL wf_api_Item) p.Items

structure chain_source where
  draws_ : (List Int)
  at_ : Int
  beyond_ : Int
  deriving Inhabited
def enc_chain_source (p : chain_source) : List AV := [.lst 1 false (List.map (eI .i64) p.draws_), .int .i64 p.at_, .int .i64 p.beyond_]
def wf_chain_source (p : chain_source) : Prop := (wfL (wfI .i64)) p.draws_ ∧ (wfI .i64) p.at_ ∧ (wfI .i64) p.beyond_

structure law18_leaf where
  x_ : api_Chain
  weight_ : Int
  deriving Inhabited
def enc_law18_leaf (p : law18_leaf) : List AV := [.int .i64 p.x_.W, .int .i64 p.x_.Cap, .int .i64 p.x_.I, .int .i64 p.x_.Next, .lst 2 false (List.map enc_api_Link p.x_.Links), .int .i64 p.weight_]
def wf_law18_leaf (p : law18_leaf) : Prop := wf_api_Chain p.x_ ∧ (wfI .i64) p.weight_

structure made_Tape where
  L : (List Int)
  At : Int
  deriving Inhabited
def enc_made_Tape (p : made_Tape) : List AV := [.lst 1 false (List.map (eI .i64) p.L), .int .i64 p.At]
def wf_made_Tape (p : made_Tape) : Prop := (wfL (wfI .i64)) p.L ∧ (wfI .i64) p.At

noncomputable def chain_Validate_l6s (p0 : api_Chain) (v6_60 : Int) : Option (Int ⊕ Int) :=
  cond (decide (v6_60 < (p0.Links.length : Int))) (
    Option.bind (idx p0.Links v6_60) fun x11_1 =>
    cond (((((decide (x11_1.V < (-4096:Int))) || (decide (x11_1.V > (4096:Int)))) || (decide (x11_1.I < (1:Int)))) || (decide (x11_1.I > p0.I))) || (decide (x11_1.I ≤ (w64 (p0.I - p0.W))))) (
      some (.inr (2:Int))) <|
    Option.bind (gd (decide (v6_60 > (0:Int))) (idx p0.Links (w64 (v6_60 - (1:Int))))) fun x14_9 =>
    Option.bind (gd ((decide (v6_60 > (0:Int))) && (!(decide (x11_1.I ≤ x14_9.I)))) (idx p0.Links (w64 (v6_60 - (1:Int))))) fun x14_20 =>
    cond ((decide (v6_60 > (0:Int))) && ((decide (x11_1.I ≤ x14_9.I)) || (decide (x11_1.I > (w64 (x14_20.I + p0.W)))))) (
      some (.inr (2:Int))) <|
    some (.inl (w64 (v6_60 + (1:Int))))) <|
  Option.map Sum.inr (Option.bind (gd (!(decide (p0.Next ≤ p0.I))) (idx p0.Links (w64 ((p0.Links.length : Int) - (1:Int))))) fun x17_14 =>
  cond ((decide (p0.Next ≤ p0.I)) || (decide (p0.Next > (w64 (x17_14.I + p0.W))))) (
    some (2:Int)) <|
  some (0:Int))

noncomputable def chain_Validate_l6 (p0 : api_Chain) (v6_60 : Int) : Option Int :=
  loop (fun (s : Int) => chain_Validate_l6s p0 s) v6_60

noncomputable def chain_Validate (p0 : api_Chain) : Option Int :=
  cond (((((((decide (p0.W < (1:Int))) || (decide (p0.W > (1048576:Int)))) || (decide (p0.Cap < (1:Int)))) || (decide (p0.Cap > (64:Int)))) || (decide (p0.I < (0:Int)))) || (decide (p0.I > (1099511627776:Int)))) || (decide ((p0.Links.length : Int) > p0.Cap))) (
    some (2:Int)) <|
  cond (p0.I == (0:Int)) (
    cond ((decide ((p0.Links.length : Int) > (0:Int))) || (p0.Next != (0:Int))) (
      some (2:Int)) <|
    some (0:Int)) <|
  cond ((p0.Links.length : Int) == (0:Int)) (
    some (2:Int)) <|
  chain_Validate_l6 p0 (0:Int)

noncomputable def draw_Next (p0 : (List Int)) (p1 : Int) (p2 : Int) : Option (Int × Int × Int) :=
  cond ((decide (p2 < (1:Int))) || (decide (p1 < (0:Int)))) (
    some ((0:Int), (0:Int), (1:Int))) <|
  Option.bind (gd (!(decide (p1 ≥ (p0.length : Int)))) (idx p0 p1)) fun x3_7 =>
  Option.bind (gd (!((decide (p1 ≥ (p0.length : Int))) || (decide (x3_7 < (0:Int))))) (idx p0 p1)) fun x3_14 =>
  cond (((decide (p1 ≥ (p0.length : Int))) || (decide (x3_7 < (0:Int)))) || (decide (x3_14 ≥ p2))) (
    some ((0:Int), (0:Int), (8:Int))) <|
  Option.bind (idx p0 p1) fun x5_2 =>
  some (x5_2, (w64 (p1 + (1:Int))), (0:Int))

noncomputable def chain_source_next (p0 : chain_source) (p1 : Int) : Option (Int × Int × chain_source) :=
  Option.bind (draw_Next p0.draws_ p0.at_ p1) fun y1_9 =>
  cond (y1_9.2.2 != (0:Int)) (
    cond (decide (p0.at_ ≥ (p0.draws_.length : Int))) (
      some ((0:Int), y1_9.2.2, (chain_source.mk p0.draws_ p0.at_ p1))) <|
    some ((0:Int), y1_9.2.2, p0)) <|
  some (y1_9.1, (0:Int), (chain_source.mk p0.draws_ y1_9.2.1 p0.beyond_))

noncomputable def chain_add_j8 (p0 : api_Chain) (j8_9 : (List api_Link)) (j8_b0_0 : (List Int)) (j8_b0_1 : Int) (j8_b0_2 : Int) (j8_b0x0_3 : Int) : Option (api_Chain × Int × chain_source) :=
  some ((api_Chain.mk p0.W p0.Cap (w64 (p0.I + (1:Int))) j8_b0x0_3 j8_9), (0:Int), (chain_source.mk j8_b0_0 j8_b0_1 j8_b0_2))

noncomputable def chain_add_j5 (p0 : api_Chain) (p1 : Int) (j5_9 : (List api_Link)) (j5_10 : Bool) (j5_b0_0 : (List Int)) (j5_b0_1 : Int) (j5_b0_2 : Int) : Option (api_Chain × Int × chain_source) :=
  cond j5_10 (
    cond ((j5_9.length : Int) == p0.Cap) (
      some ((api_Chain.mk (0:Int) (0:Int) (0:Int) (0:Int) ([] : List api_Link)), (9:Int), (chain_source.mk j5_b0_0 j5_b0_1 j5_b0_2))) <|
    ck (decide ((j5_9.length + [(api_Link.mk (w64 (p0.I + (1:Int))) p1)].length) * 16 ≤ 140737488355328)) <|
    Option.bind (chain_source_next (chain_source.mk j5_b0_0 j5_b0_1 j5_b0_2) p0.W) fun y21_3 =>
    cond (y21_3.2.1 != (0:Int)) (
      some ((api_Chain.mk (0:Int) (0:Int) (0:Int) (0:Int) ([] : List api_Link)), y21_3.2.1, y21_3.2.2)) <|
    chain_add_j8 p0 (j5_9 ++ [(api_Link.mk (w64 (p0.I + (1:Int))) p1)]) y21_3.2.2.draws_ y21_3.2.2.at_ y21_3.2.2.beyond_ (w64 ((w64 ((w64 (p0.I + (1:Int))) + (1:Int))) + y21_3.1))) <|
  chain_add_j8 p0 j5_9 j5_b0_0 j5_b0_1 j5_b0_2 p0.Next

noncomputable def chain_add (p0 : api_Chain) (p1 : Int) (p2 : chain_source) : Option (api_Chain × Int × chain_source) :=
  cond ((decide (p1 < (-4096:Int))) || (decide (p1 > (4096:Int)))) (
    some ((api_Chain.mk (0:Int) (0:Int) (0:Int) (0:Int) ([] : List api_Link)), (4:Int), p2)) <|
  cond (decide (p2.at_ < (0:Int))) (
    some ((api_Chain.mk (0:Int) (0:Int) (0:Int) (0:Int) ([] : List api_Link)), (1:Int), p2)) <|
  cond (p0.I == (1099511627776:Int)) (
    some ((api_Chain.mk (0:Int) (0:Int) (0:Int) (0:Int) ([] : List api_Link)), (5:Int), p2)) <|
  ck (decide ((([] : List api_Link).length + p0.Links.length) * 16 ≤ 140737488355328)) <|
  Option.bind (gd (decide (((([] : List api_Link) ++ p0.Links).length : Int) > (0:Int))) (idx (([] : List api_Link) ++ p0.Links) (0:Int))) fun x10_5 =>
  Option.bind (gd (decide (((([] : List api_Link) ++ p0.Links).length : Int) > (0:Int))) (idx (([] : List api_Link) ++ p0.Links) (0:Int))) fun x10_7 =>
  cond ((decide (((([] : List api_Link) ++ p0.Links).length : Int) > (0:Int))) && (x10_7.I == (w64 ((w64 (p0.I + (1:Int))) - p0.W)))) (
    ck (decide (0 ≤ (1:Int) ∧ (1:Int) ≤ ((([] : List api_Link) ++ p0.Links).length : Int))) <|
    chain_add_j5 p0 p1 ((([] : List api_Link) ++ p0.Links).drop ((1:Int)).toNat) (p0.Next == (w64 (p0.I + (1:Int)))) p2.draws_ p2.at_ p2.beyond_) <|
  Option.bind (chain_source_next p2 (imin (w64 (p0.I + (1:Int))) p0.W)) fun y12_5 =>
  cond (y12_5.2.1 != (0:Int)) (
    some ((api_Chain.mk (0:Int) (0:Int) (0:Int) (0:Int) ([] : List api_Link)), y12_5.2.1, y12_5.2.2)) <|
  cond (y12_5.1 == (0:Int)) (
    chain_add_j5 p0 p1 ([] : List api_Link) true y12_5.2.2.draws_ y12_5.2.2.at_ y12_5.2.2.beyond_) <|
  chain_add_j5 p0 p1 (([] : List api_Link) ++ p0.Links) (p0.Next == (w64 (p0.I + (1:Int)))) y12_5.2.2.draws_ y12_5.2.2.at_ y12_5.2.2.beyond_

noncomputable def chain_Add (p0 : api_Chain) (p1 : Int) (p2 : (List Int)) (p3 : Int) : Option (api_Chain × Int × Int) :=
  Option.bind (chain_Validate p0) fun y1_1 =>
  cond (y1_1 != (0:Int)) (
    some ((api_Chain.mk (0:Int) (0:Int) (0:Int) (0:Int) ([] : List api_Link)), (0:Int), y1_1)) <|
  Option.bind (chain_add p0 p1 (chain_source.mk p2 p3 (0:Int))) fun y5_3 =>
  cond (y5_3.2.1 != (0:Int)) (
    some ((api_Chain.mk (0:Int) (0:Int) (0:Int) (0:Int) ([] : List api_Link)), (0:Int), y5_3.2.1)) <|
  some (y5_3.1, y5_3.2.2.at_, (0:Int))

noncomputable def chain_Ask (p0 : api_Chain) : Option (Int × Int) :=
  Option.bind (chain_Validate p0) fun y1_1 =>
  cond (y1_1 != (0:Int)) (
    some ((0:Int), y1_1)) <|
  cond ((p0.Links.length : Int) == (0:Int)) (
    some ((0:Int), (7:Int))) <|
  Option.bind (idx p0.Links (0:Int)) fun x6_2 =>
  some (x6_2.V, (0:Int))

noncomputable def chain_Needs (p0 : api_Chain) (p1 : Int) (p2 : (List Int)) (p3 : Int) : Option (Int × Bool) :=
  Option.bind (chain_Validate p0) fun y1_1 =>
  cond (y1_1 != (0:Int)) (
    some ((0:Int), false)) <|
  Option.bind (chain_add p0 p1 (chain_source.mk p2 p3 (0:Int))) fun y4_3 =>
  cond ((y4_3.2.1 != (8:Int)) || (y4_3.2.2.beyond_ == (0:Int))) (
    some ((0:Int), false)) <|
  some (y4_3.2.2.beyond_, true)

noncomputable def chain_New (p0 : Int) (p1 : Int) : (api_Chain × Int) :=
  cond ((((decide (p0 < (1:Int))) || (decide (p0 > (1048576:Int)))) || (decide (p1 < (1:Int)))) || (decide (p1 > (64:Int)))) (
    ((api_Chain.mk (0:Int) (0:Int) (0:Int) (0:Int) ([] : List api_Link)), (1:Int))) <|
  ((api_Chain.mk p0 p1 (0:Int) (0:Int) ([] : List api_Link)), (0:Int))

noncomputable def clock_tick (p0 : Int) : Bool :=
  ((decide (p0 ≥ (0:Int))) && (decide (p0 ≤ (16777216:Int))))

noncomputable def clock_Advance (p0 : Int) (p1 : Int) : (Int × Int) :=
  let y1_1 := (clock_tick p0);
  cond (!y1_1) (
    ((0:Int), (1:Int))) <|
  cond ((decide (p1 < p0)) || (decide (p1 > (16777216:Int)))) (
    ((0:Int), (3:Int))) <|
  (p1, (0:Int))

noncomputable def clock_First (p0 : Int) (p1 : Int) : Int :=
  let y1_1 := (clock_tick p0);
  cond (((!y1_1) || (decide (p1 < (1:Int)))) || (decide (p1 > (1048576:Int)))) (
    (-1:Int)) <|
  (imax (0:Int) (w64 ((w64 (p0 - p1)) + (1:Int))))

noncomputable def clock_Live (p0 : Int) (p1 : Int) (p2 : Int) : Bool :=
  let y1_2 := (clock_First p0 p1);
  let y2_4 := (clock_tick p2);
  ((((decide (y1_2 ≥ (0:Int))) && y2_4) && (decide (y1_2 ≤ p2))) && (decide (p2 ≤ p0)))

noncomputable def exact_tick (p0 : Int) : Bool :=
  ((decide (p0 ≥ (0:Int))) && (decide (p0 ≤ (16777216:Int))))

noncomputable def exact_Valid_l3s (p0 : (List api_Item)) (p1 : Int) (v3_12 : Int) : Option (Int ⊕ Bool) :=
  cond (decide (v3_12 < (p0.length : Int))) (
    Option.bind (idx p0 v3_12) fun x5_1 =>
    Option.bind (gd ((!((decide (x5_1.T < (0:Int))) || (decide (x5_1.T > p1)))) && (decide (v3_12 > (0:Int)))) (idx p0 (w64 (v3_12 - (1:Int))))) fun x6_16 =>
    cond (((decide (x5_1.T < (0:Int))) || (decide (x5_1.T > p1))) || ((decide (v3_12 > (0:Int))) && (decide (x6_16.T > x5_1.T)))) (
      some (.inr false)) <|
    some (.inl (w64 (v3_12 + (1:Int))))) <|
  Option.map Sum.inr (some true)

noncomputable def exact_Valid_l3 (p0 : (List api_Item)) (p1 : Int) (v3_12 : Int) : Option Bool :=
  loop (fun (s : Int) => exact_Valid_l3s p0 p1 s) v3_12

noncomputable def exact_Valid (p0 : (List api_Item)) (p1 : Int) : Option Bool :=
  let y1_1 := (exact_tick p1);
  cond (!y1_1) (
    some false) <|
  exact_Valid_l3 p0 p1 (0:Int)

noncomputable def exact_Live_l3s (p0 : (List api_Item)) (p1 : Int) (p2 : Int) (v3_7 : (List api_Item)) (v3_16 : Int) : Option (((List api_Item) × Int) ⊕ (List api_Item)) :=
  cond (decide (v3_16 < (p0.length : Int))) (
    Option.bind (idx p0 v3_16) fun x6_0 =>
    let y7_4 := (clock_Live p1 p2 x6_0.T);
    cond y7_4 (
      ck (decide ((v3_7.length + [x6_0].length) * 16 ≤ 140737488355328)) <|
      some (.inl ((v3_7 ++ [x6_0]), (w64 (v3_16 + (1:Int)))))) <|
    some (.inl (v3_7, (w64 (v3_16 + (1:Int)))))) <|
  Option.map Sum.inr (some v3_7)

noncomputable def exact_Live_l3 (p0 : (List api_Item)) (p1 : Int) (p2 : Int) (v3_7 : (List api_Item)) (v3_16 : Int) : Option (List api_Item) :=
  loop (fun (s : ((List api_Item) × Int)) => exact_Live_l3s p0 p1 p2 s.1 s.2) (v3_7, v3_16)

noncomputable def exact_Live (p0 : (List api_Item)) (p1 : Int) (p2 : Int) : Option (List api_Item) :=
  Option.bind (exact_Valid p0 p1) fun y1_2 =>
  cond (!y1_2) (
    some ([] : List api_Item)) <|
  exact_Live_l3 p0 p1 p2 ([] : List api_Item) (0:Int)

noncomputable def recent_good (p0 : Int) (p1 : Int) (p2 : Int) : Bool :=
  ((((((decide (p0 ≥ (1:Int))) && (decide (p0 ≤ (1048576:Int)))) && (decide (p1 ≥ (1:Int)))) && (decide (p1 ≤ (65536:Int)))) && (decide (p2 ≥ (0:Int)))) && (decide (p2 ≤ (16777216:Int))))

noncomputable def recent_value (p0 : Int) : Bool :=
  ((decide (p0 ≥ (-4096:Int))) && (decide (p0 ≤ (4096:Int))))

noncomputable def recent_Validate_l3s (p0 : api_Recent) (v3_32 : Int) : Option (Int ⊕ Int) :=
  cond (decide (v3_32 < (p0.Items.length : Int))) (
    Option.bind (idx p0.Items v3_32) fun x5_0 =>
    let y6_6 := (clock_Live p0.Now p0.W x5_0.T);
    let y6_11 := (recent_value x5_0.V);
    cond ((!y6_6) || (!y6_11)) (
      some (.inr (2:Int))) <|
    some (.inl (w64 (v3_32 + (1:Int))))) <|
  Option.map Sum.inr (some (0:Int))

noncomputable def recent_Validate_l3 (p0 : api_Recent) (v3_32 : Int) : Option Int :=
  loop (fun (s : Int) => recent_Validate_l3s p0 s) v3_32

noncomputable def recent_Validate (p0 : api_Recent) : Option Int :=
  let y1_6 := (recent_good p0.W p0.Cap p0.Now);
  Option.bind (gd (!((!y1_6) || (decide ((p0.Items.length : Int) > p0.Cap)))) (exact_Valid p0.Items p0.Now)) fun y1_21 =>
  cond (((!y1_6) || (decide ((p0.Items.length : Int) > p0.Cap))) || (!y1_21)) (
    some (2:Int)) <|
  recent_Validate_l3 p0 (0:Int)

noncomputable def recent_Add (p0 : api_Recent) (p1 : Int) : Option (api_Recent × Int) :=
  Option.bind (recent_Validate p0) fun y1_1 =>
  cond (y1_1 != (0:Int)) (
    some ((api_Recent.mk (0:Int) (0:Int) (0:Int) ([] : List api_Item)), y1_1)) <|
  let y4_1 := (recent_value p1);
  cond (!y4_1) (
    some ((api_Recent.mk (0:Int) (0:Int) (0:Int) ([] : List api_Item)), (4:Int))) <|
  cond ((p0.Items.length : Int) == p0.Cap) (
    some ((api_Recent.mk (0:Int) (0:Int) (0:Int) ([] : List api_Item)), (5:Int))) <|
  ck (decide (0 ≤ (p0.Items.length : Int) ∧ (p0.Items.length : Int) = (p0.Items.length : Int) ∧ (p0.Items.length : Int) ≤ (p0.Items.length : Int))) <|
  ck (decide ([(api_Item.mk p0.Now p1)] ≠ [] ∧ ((p0.Items.take ((p0.Items.length : Int)).toNat).length + [(api_Item.mk p0.Now p1)].length) * 16 ≤ 140737488355328)) <|
  some ((api_Recent.mk p0.W p0.Cap p0.Now ((p0.Items.take ((p0.Items.length : Int)).toNat) ++ [(api_Item.mk p0.Now p1)])), (0:Int))

noncomputable def recent_New (p0 : Int) (p1 : Int) (p2 : Int) : (api_Recent × Int) :=
  let y1_3 := (recent_good p0 p1 p2);
  cond (!y1_3) (
    ((api_Recent.mk (0:Int) (0:Int) (0:Int) ([] : List api_Item)), (1:Int))) <|
  ((api_Recent.mk p0 p1 p2 ([] : List api_Item)), (0:Int))

noncomputable def law09_awake : Option Bool :=
  let y1_0 := (recent_New (3:Int) (2:Int) (0:Int));
  Option.bind (recent_Add y1_0.1 (5:Int)) fun y2_1 =>
  some (((y1_0.2 == (0:Int)) && (y2_1.2 == (0:Int))) && ((y2_1.1.Items.length : Int) == (1:Int)))

noncomputable def made_Mod (p0 : Int) (p1 : Int) : Option Int :=
  ck (decide (p1 ≠ 0)) <|
  cond (decide ((Int.tmod p0 p1) < (0:Int))) (
    some (w64 ((Int.tmod p0 p1) + p1))) <|
  some (Int.tmod p0 p1)

noncomputable def made_Int (p0 : Int) (p1 : Int) : Option Int :=
  Option.bind (made_Mod p0 p1) fun y1_2 =>
  some y1_2

noncomputable def made_Gap_j3 (p0 : Int) (j3_17 : Bool) : Option Int :=
  cond j3_17 (
    Option.bind (made_Mod (w64 (Int.tdiv p0 (8:Int))) (3:Int)) fun y7_1 =>
    some (w64 ((1:Int) + y7_1))) <|
  some (0:Int)

noncomputable def made_Gap (p0 : Int) (p1 : Int) : Option Int :=
  Option.bind (made_Mod p0 (8:Int)) fun y2_1 =>
  cond (y2_1 == (0:Int)) (
    Option.bind (made_Mod (w64 (Int.tdiv p0 (8:Int))) (w64 ((w64 ((2:Int) * p1)) + (2:Int)))) fun y4_4 =>
    some y4_4) <|
  cond (y2_1 == (1:Int)) (
    made_Gap_j3 p0 (y2_1 == (1:Int))) <|
  made_Gap_j3 p0 (y2_1 == (2:Int))

noncomputable def made_Value (p0 : Int) : Option Int :=
  Option.bind (made_Mod p0 (8:Int)) fun y2_1 =>
  cond (y2_1 == (0:Int)) (
    Option.bind (made_Mod (w64 (Int.tdiv p0 (8:Int))) (8193:Int)) fun y4_1 =>
    some (w64 (y4_1 - (4096:Int)))) <|
  cond (y2_1 == (1:Int)) (
    Option.bind (made_Mod (w64 (Int.tdiv p0 (8:Int))) (2:Int)) fun y6_1 =>
    some (w64 ((4096:Int) * (w64 ((w64 ((2:Int) * y6_1)) - (1:Int)))))) <|
  Option.bind (made_Mod (w64 (Int.tdiv p0 (8:Int))) (13:Int)) fun y7_1 =>
  some (w64 (y7_1 - (6:Int)))

noncomputable def made_Items_l2s (p0 : (List api_Item)) (p1 : Int) (p2 : Int) (v2_7 : (List api_Item)) (v2_8 : Int) (v2_9 : Int) : Option (((List api_Item) × Int × Int) ⊕ (List api_Item)) :=
  cond ((decide (v2_9 < (p0.length : Int))) && (decide (v2_9 < p2))) (
    Option.bind (idx p0 v2_9) fun x6_3 =>
    Option.bind (made_Gap x6_3.T p1) fun y6_7 =>
    Option.bind (idx p0 v2_9) fun x7_4 =>
    Option.bind (made_Value x7_4.V) fun y7_7 =>
    ck (decide ((v2_7.length + [(api_Item.mk (w64 (v2_8 + y6_7)) y7_7)].length) * 16 ≤ 140737488355328)) <|
    some (.inl ((v2_7 ++ [(api_Item.mk (w64 (v2_8 + y6_7)) y7_7)]), (w64 (v2_8 + y6_7)), (w64 (v2_9 + (1:Int)))))) <|
  Option.map Sum.inr (some v2_7)

noncomputable def made_Items_l2 (p0 : (List api_Item)) (p1 : Int) (p2 : Int) (v2_7 : (List api_Item)) (v2_8 : Int) (v2_9 : Int) : Option (List api_Item) :=
  loop (fun (s : ((List api_Item) × Int × Int)) => made_Items_l2s p0 p1 p2 s.1 s.2.1 s.2.2) (v2_7, v2_8, v2_9)

noncomputable def made_Items (p0 : (List api_Item)) (p1 : Int) (p2 : Int) : Option (List api_Item) :=
  made_Items_l2 p0 p1 p2 ([] : List api_Item) (0:Int) (0:Int)

noncomputable def made_Live_l2s (p0 : (List api_Item)) (p1 : Int) (p2 : Int) (v2_7 : (List api_Item)) (v2_12 : Int) : Option (((List api_Item) × Int) ⊕ (List api_Item)) :=
  cond (decide (v2_12 < (p0.length : Int))) (
    Option.bind (idx p0 v2_12) fun x4_0 =>
    cond ((decide (x4_0.T > (w64 (p1 - p2)))) && (decide (x4_0.T ≤ p1))) (
      ck (decide ((v2_7.length + [x4_0].length) * 16 ≤ 140737488355328)) <|
      some (.inl ((v2_7 ++ [x4_0]), (w64 (v2_12 + (1:Int)))))) <|
    some (.inl (v2_7, (w64 (v2_12 + (1:Int)))))) <|
  Option.map Sum.inr (some v2_7)

noncomputable def made_Live_l2 (p0 : (List api_Item)) (p1 : Int) (p2 : Int) (v2_7 : (List api_Item)) (v2_12 : Int) : Option (List api_Item) :=
  loop (fun (s : ((List api_Item) × Int)) => made_Live_l2s p0 p1 p2 s.1 s.2) (v2_7, v2_12)

noncomputable def made_Live (p0 : (List api_Item)) (p1 : Int) (p2 : Int) : Option (List api_Item) :=
  made_Live_l2 p0 p1 p2 ([] : List api_Item) (0:Int)

noncomputable def recent_Advance (p0 : api_Recent) (p1 : Int) : Option (api_Recent × Int) :=
  Option.bind (recent_Validate p0) fun y1_1 =>
  cond (y1_1 != (0:Int)) (
    some ((api_Recent.mk (0:Int) (0:Int) (0:Int) ([] : List api_Item)), y1_1)) <|
  let y4_3 := (clock_Advance p0.Now p1);
  cond (y4_3.2 != (0:Int)) (
    some ((api_Recent.mk (0:Int) (0:Int) (0:Int) ([] : List api_Item)), y4_3.2)) <|
  Option.bind (exact_Live p0.Items p1 p0.W) fun y8_5 =>
  some ((api_Recent.mk p0.W p0.Cap p1 y8_5), (0:Int))

noncomputable def ref05_SameItems_l3s (p0 : (List api_Item)) (p1 : (List api_Item)) (v3_13 : Int) : Option (Int ⊕ Bool) :=
  cond (decide (v3_13 < (p0.length : Int))) (
    Option.bind (idx p0 v3_13) fun x6_2 =>
    Option.bind (idx p1 v3_13) fun x6_6 =>
    cond (!(x6_2.T == x6_6.T && (x6_2.V == x6_6.V && true))) (
      some (.inr false)) <|
    some (.inl (w64 (v3_13 + (1:Int))))) <|
  Option.map Sum.inr (some true)

noncomputable def ref05_SameItems_l3 (p0 : (List api_Item)) (p1 : (List api_Item)) (v3_13 : Int) : Option Bool :=
  loop (fun (s : Int) => ref05_SameItems_l3s p0 p1 s) v3_13

noncomputable def ref05_SameItems (p0 : (List api_Item)) (p1 : (List api_Item)) : Option Bool :=
  cond ((p0.length : Int) != (p1.length : Int)) (
    some false) <|
  ref05_SameItems_l3 p0 p1 (0:Int)

noncomputable def law09_RecentRuns_j8 (v3_32 : Int) (j8_9 : (List api_Item)) (j8_b2x6_0 : Int) (j8_b2x6_1 : Int) (j8_b2x6_2 : Int) (j8_b2x6_3 : (List api_Item)) : Option (((List api_Item) × Int × Int × Int × Int × (List api_Item)) ⊕ Bool) :=
  Option.bind (ref05_SameItems j8_b2x6_3 j8_9) fun y18_3 =>
  cond (!y18_3) (
    some (.inr false)) <|
  some (.inl (j8_9, (w64 (v3_32 + (1:Int))), j8_b2x6_0, j8_b2x6_1, j8_b2x6_2, j8_b2x6_3))

noncomputable def law09_RecentRuns_l3s (y1_1 : Int) (y1_4 : Int) (y6_2 : (List api_Item)) (v3_9 : (List api_Item)) (v3_32 : Int) (v3_b2x6_0 : Int) (v3_b2x6_1 : Int) (v3_b2x6_2 : Int) (v3_b2x6_3 : (List api_Item)) : Option (((List api_Item) × Int × Int × Int × Int × (List api_Item)) ⊕ Bool) :=
  cond (decide (v3_32 < (y6_2.length : Int))) (
    Option.bind (idx y6_2 v3_32) fun x8_0 =>
    Option.bind (recent_Advance (api_Recent.mk v3_b2x6_0 v3_b2x6_1 v3_b2x6_2 v3_b2x6_3) x8_0.T) fun y9_3 =>
    cond (y9_3.2 != (0:Int)) (
      some (.inr false)) <|
    Option.bind (made_Live v3_9 x8_0.T (w64 ((1:Int) + y1_1))) fun y12_4 =>
    Option.bind (recent_Add y9_3.1 x8_0.V) fun y13_3 =>
    cond ((!((y13_3.2 == (5:Int)) == ((y12_4.length : Int) == (w64 ((1:Int) + y1_4))))) || ((y13_3.2 != (0:Int)) && (y13_3.2 != (5:Int)))) (
      some (.inr false)) <|
    cond (y13_3.2 == (0:Int)) (
      ck (decide ((([] : List api_Item).length + y12_4.length) * 16 ≤ 140737488355328)) <|
      ck (decide (((([] : List api_Item) ++ y12_4).length + [x8_0].length) * 16 ≤ 140737488355328)) <|
      law09_RecentRuns_j8 v3_32 ((([] : List api_Item) ++ y12_4) ++ [x8_0]) y13_3.1.W y13_3.1.Cap y13_3.1.Now y13_3.1.Items) <|
    law09_RecentRuns_j8 v3_32 y12_4 y9_3.1.W y9_3.1.Cap y9_3.1.Now y9_3.1.Items) <|
  Option.map Sum.inr (Option.bind law09_awake fun y21_0 =>
  some y21_0)

noncomputable def law09_RecentRuns_l3 (y1_1 : Int) (y1_4 : Int) (y6_2 : (List api_Item)) (v3_9 : (List api_Item)) (v3_32 : Int) (v3_b2x6_0 : Int) (v3_b2x6_1 : Int) (v3_b2x6_2 : Int) (v3_b2x6_3 : (List api_Item)) : Option Bool :=
  loop (fun (s : ((List api_Item) × Int × Int × Int × Int × (List api_Item))) => law09_RecentRuns_l3s y1_1 y1_4 y6_2 s.1 s.2.1 s.2.2.1 s.2.2.2.1 s.2.2.2.2.1 s.2.2.2.2.2) (v3_9, v3_32, v3_b2x6_0, v3_b2x6_1, v3_b2x6_2, v3_b2x6_3)

noncomputable def law09_RecentRuns (p0 : (List api_Item)) (p1 : Int) (p2 : Int) : Option Bool :=
  Option.bind (made_Mod p1 (20:Int)) fun y1_1 =>
  Option.bind (made_Int p2 (30:Int)) fun y1_4 =>
  let y2_2 := (recent_New (w64 ((1:Int) + y1_1)) (w64 ((1:Int) + y1_4)) (0:Int));
  cond (y2_2.2 != (0:Int)) (
    some false) <|
  Option.bind (made_Items p0 (w64 ((1:Int) + y1_1)) (60:Int)) fun y6_2 =>
  law09_RecentRuns_l3 y1_1 y1_4 y6_2 ([] : List api_Item) (0:Int) y2_2.1.W y2_2.1.Cap y2_2.1.Now y2_2.1.Items

noncomputable def law09_few (p0 : api_Recent) : Bool :=
  (decide ((p0.Items.length : Int) ≤ (200:Int)))

noncomputable def ref06_Tick (p0 : Int) : Bool :=
  ((decide (p0 ≥ (0:Int))) && (decide (p0 ≤ (16777216:Int))))

noncomputable def ref06_Window (p0 : Int) : Bool :=
  ((decide (p0 ≥ (1:Int))) && (decide (p0 ≤ (1048576:Int))))

noncomputable def ref06_Live (p0 : Int) (p1 : Int) (p2 : Int) : Bool :=
  let y1_1 := (ref06_Tick p0);
  let y1_4 := (ref06_Window p1);
  let y1_8 := (ref06_Tick p2);
  ((((y1_1 && y1_4) && y1_8) && (decide (p2 > (w64 (p0 - p1))))) && (decide (p2 ≤ p0)))

noncomputable def ref08_Valid_l3s (p0 : (List api_Item)) (p1 : Int) (v3_12 : Int) : Option (Int ⊕ Bool) :=
  cond (decide (v3_12 < (p0.length : Int))) (
    Option.bind (idx p0 v3_12) fun x5_1 =>
    Option.bind (gd ((!((decide (x5_1.T < (0:Int))) || (decide (x5_1.T > p1)))) && (decide (v3_12 > (0:Int)))) (idx p0 (w64 (v3_12 - (1:Int))))) fun x6_16 =>
    cond (((decide (x5_1.T < (0:Int))) || (decide (x5_1.T > p1))) || ((decide (v3_12 > (0:Int))) && (decide (x6_16.T > x5_1.T)))) (
      some (.inr false)) <|
    some (.inl (w64 (v3_12 + (1:Int))))) <|
  Option.map Sum.inr (some true)

noncomputable def ref08_Valid_l3 (p0 : (List api_Item)) (p1 : Int) (v3_12 : Int) : Option Bool :=
  loop (fun (s : Int) => ref08_Valid_l3s p0 p1 s) v3_12

noncomputable def ref08_Valid (p0 : (List api_Item)) (p1 : Int) : Option Bool :=
  let y1_1 := (ref06_Tick p1);
  cond (!y1_1) (
    some false) <|
  ref08_Valid_l3 p0 p1 (0:Int)

noncomputable def ref09_May (p0 : Int) (p1 : Int) (p2 : Int) : Bool :=
  let y1_1 := (ref06_Window p0);
  let y1_12 := (ref06_Tick p2);
  (((y1_1 && (decide (p1 ≥ (1:Int)))) && (decide (p1 ≤ (65536:Int)))) && y1_12)

noncomputable def ref09_Value (p0 : Int) : Bool :=
  ((decide (p0 ≥ (-4096:Int))) && (decide (p0 ≤ (4096:Int))))

noncomputable def ref09_Validate_l3s (p0 : api_Recent) (v3_32 : Int) : Option (Int ⊕ Int) :=
  cond (decide (v3_32 < (p0.Items.length : Int))) (
    Option.bind (idx p0.Items v3_32) fun x5_0 =>
    let y6_6 := (ref06_Live p0.Now p0.W x5_0.T);
    let y6_11 := (ref09_Value x5_0.V);
    cond ((!y6_6) || (!y6_11)) (
      some (.inr (2:Int))) <|
    some (.inl (w64 (v3_32 + (1:Int))))) <|
  Option.map Sum.inr (some (0:Int))

noncomputable def ref09_Validate_l3 (p0 : api_Recent) (v3_32 : Int) : Option Int :=
  loop (fun (s : Int) => ref09_Validate_l3s p0 s) v3_32

noncomputable def ref09_Validate (p0 : api_Recent) : Option Int :=
  let y1_6 := (ref09_May p0.W p0.Cap p0.Now);
  Option.bind (gd (!((!y1_6) || (decide ((p0.Items.length : Int) > p0.Cap)))) (ref08_Valid p0.Items p0.Now)) fun y1_21 =>
  cond (((!y1_6) || (decide ((p0.Items.length : Int) > p0.Cap))) || (!y1_21)) (
    some (2:Int)) <|
  ref09_Validate_l3 p0 (0:Int)

noncomputable def ref09_Add (p0 : api_Recent) (p1 : Int) : Option (api_Recent × Int) :=
  Option.bind (ref09_Validate p0) fun y1_1 =>
  cond (y1_1 != (0:Int)) (
    some ((api_Recent.mk (0:Int) (0:Int) (0:Int) ([] : List api_Item)), y1_1)) <|
  let y4_1 := (ref09_Value p1);
  cond (!y4_1) (
    some ((api_Recent.mk (0:Int) (0:Int) (0:Int) ([] : List api_Item)), (4:Int))) <|
  cond ((p0.Items.length : Int) == p0.Cap) (
    some ((api_Recent.mk (0:Int) (0:Int) (0:Int) ([] : List api_Item)), (5:Int))) <|
  ck (decide ((([] : List api_Item).length + p0.Items.length) * 16 ≤ 140737488355328)) <|
  ck (decide (((([] : List api_Item) ++ p0.Items).length + [(api_Item.mk p0.Now p1)].length) * 16 ≤ 140737488355328)) <|
  some ((api_Recent.mk p0.W p0.Cap p0.Now ((([] : List api_Item) ++ p0.Items) ++ [(api_Item.mk p0.Now p1)])), (0:Int))

noncomputable def ref06_Back (p0 : Int) (p1 : Int) : Int :=
  cond ((decide (p1 < p0)) || (decide (p1 > (16777216:Int)))) (
    (3:Int)) <|
  (0:Int)

noncomputable def ref08_Live_l3s (p0 : (List api_Item)) (p1 : Int) (p2 : Int) (v3_7 : (List api_Item)) (v3_21 : Int) : Option (((List api_Item) × Int) ⊕ (List api_Item)) :=
  cond (decide (v3_21 < (p0.length : Int))) (
    Option.bind (idx p0 v3_21) fun x6_0 =>
    let y7_4 := (ref06_Live p1 p2 x6_0.T);
    cond y7_4 (
      ck (decide ((v3_7.length + [x6_0].length) * 16 ≤ 140737488355328)) <|
      some (.inl ((v3_7 ++ [x6_0]), (w64 (v3_21 + (1:Int)))))) <|
    some (.inl (v3_7, (w64 (v3_21 + (1:Int)))))) <|
  Option.map Sum.inr (some v3_7)

noncomputable def ref08_Live_l3 (p0 : (List api_Item)) (p1 : Int) (p2 : Int) (v3_7 : (List api_Item)) (v3_21 : Int) : Option (List api_Item) :=
  loop (fun (s : ((List api_Item) × Int)) => ref08_Live_l3s p0 p1 p2 s.1 s.2) (v3_7, v3_21)

noncomputable def ref08_Live (p0 : (List api_Item)) (p1 : Int) (p2 : Int) : Option (List api_Item) :=
  Option.bind (ref08_Valid p0 p1) fun y1_2 =>
  let y1_6 := (ref06_Window p2);
  cond ((!y1_2) || (!y1_6)) (
    some ([] : List api_Item)) <|
  ref08_Live_l3 p0 p1 p2 ([] : List api_Item) (0:Int)

noncomputable def ref09_Advance (p0 : api_Recent) (p1 : Int) : Option (api_Recent × Int) :=
  Option.bind (ref09_Validate p0) fun y1_1 =>
  cond (y1_1 != (0:Int)) (
    some ((api_Recent.mk (0:Int) (0:Int) (0:Int) ([] : List api_Item)), y1_1)) <|
  let y4_3 := (ref06_Back p0.Now p1);
  cond (y4_3 != (0:Int)) (
    some ((api_Recent.mk (0:Int) (0:Int) (0:Int) ([] : List api_Item)), y4_3)) <|
  Option.bind (ref08_Live p0.Items p1 p0.W) fun y7_10 =>
  some ((api_Recent.mk p0.W p0.Cap p1 y7_10), (0:Int))

noncomputable def ref09_Same (p0 : api_Recent) (p1 : api_Recent) : Option Bool :=
  Option.bind (gd (((p0.W == p1.W) && (p0.Cap == p1.Cap)) && (p0.Now == p1.Now)) (ref05_SameItems p0.Items p1.Items)) fun y1_24 =>
  some ((((p0.W == p1.W) && (p0.Cap == p1.Cap)) && (p0.Now == p1.Now)) && y1_24)

noncomputable def law09_RecentStates (p0 : api_Recent) (p1 : Int) (p2 : Int) : Option Bool :=
  let y1_1 := (law09_few p0);
  cond (!y1_1) (
    Option.bind law09_awake fun y2_0 =>
    some y2_0) <|
  Option.bind (recent_Advance p0 p1) fun y3_2 =>
  Option.bind (ref09_Advance p0 p1) fun y4_2 =>
  Option.bind (recent_Add p0 p2) fun y5_2 =>
  Option.bind (ref09_Add p0 p2) fun y6_2 =>
  Option.bind (recent_Validate p0) fun y7_1 =>
  Option.bind (ref09_Validate p0) fun y7_3 =>
  Option.bind (gd (y7_1 == y7_3) (ref09_Same y3_2.1 y4_2.1)) fun y7_8 =>
  Option.bind (gd (((y7_1 == y7_3) && y7_8) && (y3_2.2 == y4_2.2)) (ref09_Same y5_2.1 y6_2.1)) fun y7_18 =>
  Option.bind (gd (((((y7_1 == y7_3) && y7_8) && (y3_2.2 == y4_2.2)) && y7_18) && (y5_2.2 == y6_2.2)) law09_awake) fun y7_26 =>
  some ((((((y7_1 == y7_3) && y7_8) && (y3_2.2 == y4_2.2)) && y7_18) && (y5_2.2 == y6_2.2)) && y7_26)

noncomputable def law18_awake : Option Bool :=
  let y1_0 := (chain_New (2:Int) (5:Int));
  Option.bind (chain_Add y1_0.1 (7:Int) [(0:Int), (1:Int)] (0:Int)) fun y2_2 =>
  Option.bind (chain_Ask y2_2.1) fun y3_1 =>
  some ((((((y1_0.2 == (0:Int)) && (y2_2.2.2 == (0:Int))) && (y3_1.2 == (0:Int))) && (y2_2.2.1 == (2:Int))) && (y3_1.1 == (7:Int))) && (y2_2.1.Next == (3:Int)))

noncomputable def law18_grow_l13s (x7_5 : (List Int)) (x7_11 : Int) (y9_3 : (Int × Bool)) (v6_4 : (List law18_leaf)) (v13_8 : (List (List Int))) (v13_9 : (List Int)) (v13_17 : Int) : Option (((List (List Int)) × (List Int) × Int) ⊕ (((List law18_leaf) × (List (List Int)) × (List Int)) ⊕ (((List law18_leaf) × Int) ⊕ ((List law18_leaf) × Bool)))) :=
  cond (decide (v13_17 < y9_3.1)) (
    ck (decide ((([] : List Int).length + x7_5.length) * 8 ≤ 140737488355328)) <|
    ck (decide (((([] : List Int) ++ x7_5).length + [v13_17].length) * 8 ≤ 140737488355328)) <|
    ck (decide ((v13_8.length + [((([] : List Int) ++ x7_5) ++ [v13_17])].length) * 24 ≤ 140737488355328)) <|
    ck (decide (y9_3.1 ≠ 0)) <|
    ck (decide ((v13_9.length + [(w64 (Int.tdiv x7_11 y9_3.1))].length) * 8 ≤ 140737488355328)) <|
    some (.inl ((v13_8 ++ [((([] : List Int) ++ x7_5) ++ [v13_17])]), (v13_9 ++ [(w64 (Int.tdiv x7_11 y9_3.1))]), (w64 (v13_17 + (1:Int)))))) <|
  Option.map Sum.inr (some (.inl (v6_4, v13_8, v13_9)))

noncomputable def law18_grow_l13 (x7_5 : (List Int)) (x7_11 : Int) (y9_3 : (Int × Bool)) (v6_4 : (List law18_leaf)) (v13_8 : (List (List Int))) (v13_9 : (List Int)) (v13_17 : Int) : Option (((List law18_leaf) × (List (List Int)) × (List Int)) ⊕ (((List law18_leaf) × Int) ⊕ ((List law18_leaf) × Bool))) :=
  loop (fun (s : ((List (List Int)) × (List Int) × Int)) => law18_grow_l13s x7_5 x7_11 y9_3 v6_4 s.1 s.2.1 s.2.2) (v13_8, v13_9, v13_17)

noncomputable def law18_grow_l6s (x3_0 : law18_leaf) (v2_20 : Int) (v6_4 : (List law18_leaf)) (v6_8 : (List (List Int))) (v6_9 : (List Int)) : Option (((List law18_leaf) × (List (List Int)) × (List Int)) ⊕ (((List law18_leaf) × Int) ⊕ ((List law18_leaf) × Bool))) :=
  cond (decide ((v6_8.length : Int) > (0:Int))) (
    Option.bind (idx v6_8 (w64 ((v6_8.length : Int) - (1:Int)))) fun x7_4 =>
    Option.bind (idx v6_8 (w64 ((v6_8.length : Int) - (1:Int)))) fun x7_5 =>
    Option.bind (idx v6_9 (w64 ((v6_9.length : Int) - (1:Int)))) fun x7_10 =>
    Option.bind (idx v6_9 (w64 ((v6_9.length : Int) - (1:Int)))) fun x7_11 =>
    ck (decide (0 ≤ (w64 ((v6_8.length : Int) - (1:Int))) ∧ (w64 ((v6_8.length : Int) - (1:Int))) ≤ (v6_8.length : Int))) <|
    ck (decide (0 ≤ (w64 ((v6_9.length : Int) - (1:Int))) ∧ (w64 ((v6_9.length : Int) - (1:Int))) ≤ (v6_9.length : Int))) <|
    Option.bind (chain_Needs x3_0.x_ (0:Int) x7_5 (0:Int)) fun y9_3 =>
    cond (!y9_3.2) (
      Option.bind (chain_Add x3_0.x_ (0:Int) x7_5 (0:Int)) fun y11_3 =>
      cond ((y11_3.2.2 != (0:Int)) || (y11_3.2.1 != (x7_5.length : Int))) (
        some (.inr (.inr (([] : List law18_leaf), false)))) <|
      ck (decide ((v6_4.length + [(law18_leaf.mk y11_3.1 x7_11)].length) * 64 ≤ 140737488355328)) <|
      some (.inl ((v6_4 ++ [(law18_leaf.mk y11_3.1 x7_11)]), (v6_8.take ((w64 ((v6_8.length : Int) - (1:Int)))).toNat), (v6_9.take ((w64 ((v6_9.length : Int) - (1:Int)))).toNat)))) <|
    cond (((decide (y9_3.1 < (1:Int))) || (decide (y9_3.1 > (12:Int)))) || (decide ((x7_5.length : Int) > (3:Int)))) (
      some (.inr (.inr (([] : List law18_leaf), false)))) <|
    law18_grow_l13 x7_5 x7_11 y9_3 v6_4 (v6_8.take ((w64 ((v6_8.length : Int) - (1:Int)))).toNat) (v6_9.take ((w64 ((v6_9.length : Int) - (1:Int)))).toNat) (0:Int)) <|
  Option.map Sum.inr (some (.inl (v6_4, (w64 (v2_20 + (1:Int))))))

noncomputable def law18_grow_l6 (x3_0 : law18_leaf) (v2_20 : Int) (v6_4 : (List law18_leaf)) (v6_8 : (List (List Int))) (v6_9 : (List Int)) : Option (((List law18_leaf) × Int) ⊕ ((List law18_leaf) × Bool)) :=
  loop (fun (s : ((List law18_leaf) × (List (List Int)) × (List Int))) => law18_grow_l6s x3_0 v2_20 s.1 s.2.1 s.2.2) (v6_4, v6_8, v6_9)

noncomputable def law18_grow_l2s (p0 : (List law18_leaf)) (p1 : Int) (v2_4 : (List law18_leaf)) (v2_20 : Int) : Option (((List law18_leaf) × Int) ⊕ ((List law18_leaf) × Bool)) :=
  cond (decide (v2_20 < (p0.length : Int))) (
    Option.bind (idx p0 v2_20) fun x3_0 =>
    law18_grow_l6 x3_0 v2_20 v2_4 [([] : List Int)] [(w64 (x3_0.weight_ * p1))]) <|
  Option.map Sum.inr (some (v2_4, true))

noncomputable def law18_grow_l2 (p0 : (List law18_leaf)) (p1 : Int) (v2_4 : (List law18_leaf)) (v2_20 : Int) : Option ((List law18_leaf) × Bool) :=
  loop (fun (s : ((List law18_leaf) × Int)) => law18_grow_l2s p0 p1 s.1 s.2) (v2_4, v2_20)

noncomputable def law18_grow (p0 : (List law18_leaf)) (p1 : Int) : Option ((List law18_leaf) × Bool) :=
  law18_grow_l2 p0 p1 ([] : List law18_leaf) (0:Int)

noncomputable def ref18_Same_l3s (p0 : api_Chain) (p1 : api_Chain) (v3_44 : Int) : Option (Int ⊕ Bool) :=
  cond (decide (v3_44 < (p0.Links.length : Int))) (
    Option.bind (idx p0.Links v3_44) fun x6_3 =>
    Option.bind (idx p1.Links v3_44) fun x6_8 =>
    cond (!(x6_3.I == x6_8.I && (x6_3.V == x6_8.V && true))) (
      some (.inr false)) <|
    some (.inl (w64 (v3_44 + (1:Int))))) <|
  Option.map Sum.inr (some true)

noncomputable def ref18_Same_l3 (p0 : api_Chain) (p1 : api_Chain) (v3_44 : Int) : Option Bool :=
  loop (fun (s : Int) => ref18_Same_l3s p0 p1 s) v3_44

noncomputable def ref18_Same (p0 : api_Chain) (p1 : api_Chain) : Option Bool :=
  cond (((((p0.W != p1.W) || (p0.Cap != p1.Cap)) || (p0.I != p1.I)) || (p0.Next != p1.Next)) || ((p0.Links.length : Int) != (p1.Links.length : Int))) (
    some false) <|
  ref18_Same_l3 p0 p1 (0:Int)

noncomputable def law18_merged_l6s (x4_0 : law18_leaf) (v2_3 : (List law18_leaf)) (v2_9 : Int) (v6_6 : Int) : Option (Int ⊕ (((List law18_leaf) × Int) ⊕ (List law18_leaf))) :=
  Option.bind (gd (decide (v6_6 < (v2_3.length : Int))) (idx v2_3 v6_6)) fun x6_7 =>
  Option.bind (gd (decide (v6_6 < (v2_3.length : Int))) (idx v2_3 v6_6)) fun x6_9 =>
  Option.bind (gd (decide (v6_6 < (v2_3.length : Int))) (ref18_Same x6_9.x_ x4_0.x_)) fun y6_12 =>
  cond ((decide (v6_6 < (v2_3.length : Int))) && (!y6_12)) (
    some (.inl (w64 (v6_6 + (1:Int))))) <|
  Option.map Sum.inr (cond (v6_6 == (v2_3.length : Int)) (
    ck (decide ((v2_3.length + [x4_0].length) * 64 ≤ 140737488355328)) <|
    some (.inl ((v2_3 ++ [x4_0]), (w64 (v2_9 + (1:Int)))))) <|
  Option.bind (idx v2_3 v6_6) fun x10_4 =>
  Option.bind (idx v2_3 v6_6) fun x10_6 =>
  Option.bind (idx v2_3 v6_6) fun x10_10 =>
  Option.bind (idx v2_3 v6_6) fun x10_12 =>
  some (.inl ((v2_3.set (v6_6).toNat (law18_leaf.mk x10_12.x_ (w64 (x10_6.weight_ + x4_0.weight_)))), (w64 (v2_9 + (1:Int))))))

noncomputable def law18_merged_l6 (x4_0 : law18_leaf) (v2_3 : (List law18_leaf)) (v2_9 : Int) (v6_6 : Int) : Option (((List law18_leaf) × Int) ⊕ (List law18_leaf)) :=
  loop (fun (s : Int) => law18_merged_l6s x4_0 v2_3 v2_9 s) v6_6

noncomputable def law18_merged_l2s (p0 : (List law18_leaf)) (v2_3 : (List law18_leaf)) (v2_9 : Int) : Option (((List law18_leaf) × Int) ⊕ (List law18_leaf)) :=
  cond (decide (v2_9 < (p0.length : Int))) (
    Option.bind (idx p0 v2_9) fun x4_0 =>
    law18_merged_l6 x4_0 v2_3 v2_9 (0:Int)) <|
  Option.map Sum.inr (some v2_3)

noncomputable def law18_merged_l2 (p0 : (List law18_leaf)) (v2_3 : (List law18_leaf)) (v2_9 : Int) : Option (List law18_leaf) :=
  loop (fun (s : ((List law18_leaf) × Int)) => law18_merged_l2s p0 s.1 s.2) (v2_3, v2_9)

noncomputable def law18_merged (p0 : (List law18_leaf)) : Option (List law18_leaf) :=
  law18_merged_l2 p0 ([] : List law18_leaf) (0:Int)

noncomputable def law18_ChainUniform_l14s (y1_1 : Int) (y2_1 : Int) (v3_8 : Int) (v8_13 : (List Int)) (v14_95 : Int) : Option (Int ⊕ Bool) :=
  cond (decide (v14_95 < (v8_13.length : Int))) (
    Option.bind (idx v8_13 v14_95) fun x28_0 =>
    Option.bind (idx v8_13 v14_95) fun x28_1 =>
    cond ((w64 (x28_1 * (imin (w64 ((1:Int) + y1_1)) (w64 ((1:Int) + y2_1))))) != v3_8) (
      some (.inr false)) <|
    some (.inl (w64 (v14_95 + (1:Int))))) <|
  Option.map Sum.inr (Option.bind law18_awake fun y32_0 =>
  some y32_0)

noncomputable def law18_ChainUniform_l14 (y1_1 : Int) (y2_1 : Int) (v3_8 : Int) (v8_13 : (List Int)) (v14_95 : Int) : Option Bool :=
  loop (fun (s : Int) => law18_ChainUniform_l14s y1_1 y2_1 v3_8 v8_13 s) v14_95

noncomputable def law18_ChainUniform_l8s (y1_1 : Int) (y2_1 : Int) (v3_7 : (List law18_leaf)) (v3_8 : Int) (v8_13 : (List Int)) (v8_58 : Int) : Option (((List Int) × Int) ⊕ Bool) :=
  cond (decide (v8_58 < (v3_7.length : Int))) (
    Option.bind (idx v3_7 v8_58) fun x18_0 =>
    cond ((x18_0.x_.Links.length : Int) == (0:Int)) (
      some (.inr false)) <|
    Option.bind (idx x18_0.x_.Links (0:Int)) fun x21_4 =>
    cond ((decide ((w64 ((w64 ((1:Int) + y2_1)) - x21_4.I)) < (0:Int))) || (decide ((w64 ((w64 ((1:Int) + y2_1)) - x21_4.I)) ≥ (imin (w64 ((1:Int) + y1_1)) (w64 ((1:Int) + y2_1)))))) (
      some (.inr false)) <|
    Option.bind (idx v8_13 (w64 ((w64 ((1:Int) + y2_1)) - x21_4.I))) fun x24_4 =>
    Option.bind (idx v8_13 (w64 ((w64 ((1:Int) + y2_1)) - x21_4.I))) fun x24_5 =>
    Option.bind (idx v8_13 (w64 ((w64 ((1:Int) + y2_1)) - x21_4.I))) fun x24_9 =>
    Option.bind (idx v8_13 (w64 ((w64 ((1:Int) + y2_1)) - x21_4.I))) fun x24_10 =>
    some (.inl ((v8_13.set ((w64 ((w64 ((1:Int) + y2_1)) - x21_4.I))).toNat (w64 (x24_5 + x18_0.weight_))), (w64 (v8_58 + (1:Int)))))) <|
  Option.map Sum.inr (law18_ChainUniform_l14 y1_1 y2_1 v3_8 v8_13 (0:Int))

noncomputable def law18_ChainUniform_l8 (y1_1 : Int) (y2_1 : Int) (v3_7 : (List law18_leaf)) (v3_8 : Int) (v8_13 : (List Int)) (v8_58 : Int) : Option Bool :=
  loop (fun (s : ((List Int) × Int)) => law18_ChainUniform_l8s y1_1 y2_1 v3_7 v3_8 s.1 s.2) (v8_13, v8_58)

noncomputable def law18_ChainUniform_l3s (y1_1 : Int) (y2_1 : Int) (v3_7 : (List law18_leaf)) (v3_8 : Int) (v3_9 : Int) : Option (((List law18_leaf) × Int × Int) ⊕ Bool) :=
  cond (decide (v3_9 < (w64 ((1:Int) + y2_1)))) (
    Option.bind (law18_merged v3_7) fun y10_1 =>
    Option.bind (law18_grow y10_1 (36:Int)) fun y10_2 =>
    cond (!y10_2.2) (
      some (.inr false)) <|
    some (.inl (y10_2.1, (w64 (v3_8 * (36:Int))), (w64 (v3_9 + (1:Int)))))) <|
  Option.map Sum.inr (ck (decide (0 ≤ (imin (w64 ((1:Int) + y1_1)) (w64 ((1:Int) + y2_1))) ∧ (imin (w64 ((1:Int) + y1_1)) (w64 ((1:Int) + y2_1))) ≤ (imin (w64 ((1:Int) + y1_1)) (w64 ((1:Int) + y2_1))) ∧ (imin (w64 ((1:Int) + y1_1)) (w64 ((1:Int) + y2_1))) * 8 ≤ 140737488355328 ∧ (imin (w64 ((1:Int) + y1_1)) (w64 ((1:Int) + y2_1))) ≤ 140737488355328)) <|
  law18_ChainUniform_l8 y1_1 y2_1 v3_7 v3_8 (List.replicate ((imin (w64 ((1:Int) + y1_1)) (w64 ((1:Int) + y2_1)))).toNat (0:Int)) (0:Int))

noncomputable def law18_ChainUniform_l3 (y1_1 : Int) (y2_1 : Int) (v3_7 : (List law18_leaf)) (v3_8 : Int) (v3_9 : Int) : Option Bool :=
  loop (fun (s : ((List law18_leaf) × Int × Int)) => law18_ChainUniform_l3s y1_1 y2_1 s.1 s.2.1 s.2.2) (v3_7, v3_8, v3_9)

noncomputable def law18_ChainUniform (p0 : Int) (p1 : Int) : Option Bool :=
  Option.bind (made_Mod p0 (3:Int)) fun y1_1 =>
  Option.bind (made_Mod p1 (4:Int)) fun y2_1 =>
  let y3_1 := (chain_New (w64 ((1:Int) + y1_1)) (64:Int));
  cond (y3_1.2 != (0:Int)) (
    some false) <|
  law18_ChainUniform_l3 y1_1 y2_1 [(law18_leaf.mk y3_1.1 (1:Int))] (1:Int) (0:Int)

end Go.Win
