/- The functions of the program and of the statements, as functions on plain data: made by program out of the translated code. -/
import Derived.Test.YtbolhhoklijnpaaVc
set_option linter.unusedVariables false
namespace Go.Win
open Go.Vc Go.Dec

structure api_Link where
  I : Int
  V : Int
  deriving Inhabited
def enc_api_Link (p : api_Link) : List AV := [.int .i64 p.I, .int .i64 p.V]
def wf_api_Link (p : api_Link) : Prop := (wfI .i64) p.I ∧ (wfI .i64) p.V

structure api_Chain where
  W : Int
  Cap : Int
  I : Int
  Next : Int
  Links : (List api_Link)
  deriving Inhabited
def enc_api_Chain (p : api_Chain) : List AV := [.int .i64 p.W, .int .i64 p.Cap, .int .i64 p.I, .int .i64 p.Next, .lst 2 false (List.map enc_api_Link p.Links)]
def wf_api_Chain (p : api_Chain) : Prop := (wfI .i64) p.W ∧ (wfI .i64) p.Cap ∧ (wfI .i64) p.I ∧ (wfI .i64) p.Next ∧ (wfL wf_api_Link) p.Links

structure api_Item where
  T : Int
  V : Int
  deriving Inhabited
def enc_api_Item (p : api_Item) : List AV := [.int .i64 p.T, .int .i64 p.V]
def wf_api_Item (p : api_Item) : Prop := (wfI .i64) p.T ∧ (wfI .i64) p.V

structure api_Recent where
  W : Int
  Cap : Int
  Now : Int
  Items : (List api_Item)
  deriving Inhabited
def enc_api_Recent (p : api_Recent) : List AV := [.int .i64 p.W, .int .i64 p.Cap, .int .i64 p.Now, .lst 2 false (List.map enc_api_Item p.Items)]
def wf_api_Recent (p : api_Recent) : Prop := (wfI .i64) p.W ∧ (wfI .i64) p.Cap ∧ (wfI .i64) p.Now ∧ (wfL wf_api_Item) p.Items

structure api_Sample where
  Chains : (List api_Chain)
  deriving Inhabited
def enc_api_Sample (p : api_Sample) : List AV := [.lst 5 false (List.map enc_api_Chain p.Chains)]
def wf_api_Sample (p : api_Sample) : Prop := (wfL wf_api_Chain) p.Chains

structure chain_source where
  draws_ : (List Int)
  at_ : Int
  beyond_ : Int
  deriving Inhabited
def enc_chain_source (p : chain_source) : List AV := [.lst 1 false (List.map (eI .i64) p.draws_), .int .i64 p.at_, .int .i64 p.beyond_]
def wf_chain_source (p : chain_source) : Prop := (wfL (wfI .i64)) p.draws_ ∧ (wfI .i64) p.at_ ∧ (wfI .i64) p.beyond_

structure api_Ratio where
  Num : Int
  Den : Int
  deriving Inhabited
def enc_api_Ratio (p : api_Ratio) : List AV := [.int .i64 p.Num, .int .i64 p.Den]
def wf_api_Ratio (p : api_Ratio) : Prop := (wfI .i64) p.Num ∧ (wfI .i64) p.Den

structure api_Bounds where
  Lo : api_Ratio
  Est : api_Ratio
  Hi : api_Ratio
  deriving Inhabited
def enc_api_Bounds (p : api_Bounds) : List AV := [.int .i64 p.Lo.Num, .int .i64 p.Lo.Den, .int .i64 p.Est.Num, .int .i64 p.Est.Den, .int .i64 p.Hi.Num, .int .i64 p.Hi.Den]
def wf_api_Bounds (p : api_Bounds) : Prop := wf_api_Ratio p.Lo ∧ wf_api_Ratio p.Est ∧ wf_api_Ratio p.Hi

structure api_Wide where
  Hi : Int
  Lo : Int
  deriving Inhabited
def enc_api_Wide (p : api_Wide) : List AV := [.int .u64 p.Hi, .int .u64 p.Lo]
def wf_api_Wide (p : api_Wide) : Prop := (wfI .u64) p.Hi ∧ (wfI .u64) p.Lo

structure api_Fraction where
  Num : api_Wide
  Den : api_Wide
  deriving Inhabited
def enc_api_Fraction (p : api_Fraction) : List AV := [.int .u64 p.Num.Hi, .int .u64 p.Num.Lo, .int .u64 p.Den.Hi, .int .u64 p.Den.Lo]
def wf_api_Fraction (p : api_Fraction) : Prop := wf_api_Wide p.Num ∧ wf_api_Wide p.Den

structure api_Answer where
  Bounds : api_Bounds
  Values : (List Int)
  Fraction : api_Fraction
  deriving Inhabited
def enc_api_Answer (p : api_Answer) : List AV := [.int .i64 p.Bounds.Lo.Num, .int .i64 p.Bounds.Lo.Den, .int .i64 p.Bounds.Est.Num, .int .i64 p.Bounds.Est.Den, .int .i64 p.Bounds.Hi.Num, .int .i64 p.Bounds.Hi.Den, .lst 1 false (List.map (eI .i64) p.Values), .int .u64 p.Fraction.Num.Hi, .int .u64 p.Fraction.Num.Lo, .int .u64 p.Fraction.Den.Hi, .int .u64 p.Fraction.Den.Lo]
def wf_api_Answer (p : api_Answer) : Prop := wf_api_Bounds p.Bounds ∧ (wfL (wfI .i64)) p.Values ∧ wf_api_Fraction p.Fraction

structure api_Config where
  Kind : Int
  Agg : Int
  W : Int
  K : Int
  Cap : Int
  P : Int
  Chains : Int
  Max : Int
  deriving Inhabited
def enc_api_Config (p : api_Config) : List AV := [.int .i64 p.Kind, .int .i64 p.Agg, .int .i64 p.W, .int .i64 p.K, .int .i64 p.Cap, .int .i64 p.P, .int .i64 p.Chains, .int .i64 p.Max]
def wf_api_Config (p : api_Config) : Prop := (wfI .i64) p.Kind ∧ (wfI .i64) p.Agg ∧ (wfI .i64) p.W ∧ (wfI .i64) p.K ∧ (wfI .i64) p.Cap ∧ (wfI .i64) p.P ∧ (wfI .i64) p.Chains ∧ (wfI .i64) p.Max

structure api_Query where
  Op : Int
  A : Int
  B : Int
  deriving Inhabited
def enc_api_Query (p : api_Query) : List AV := [.int .i64 p.Op, .int .i64 p.A, .int .i64 p.B]
def wf_api_Query (p : api_Query) : Prop := (wfI .i64) p.Op ∧ (wfI .i64) p.A ∧ (wfI .i64) p.B

structure api_Command where
  Op : Int
  ID : Int
  Config : api_Config
  T : Int
  V : Int
  Draws : (List Int)
  Query : api_Query
  Bytes : (List Int)
  deriving Inhabited
def enc_api_Command (p : api_Command) : List AV := [.int .i64 p.Op, .int .i64 p.ID, .int .i64 p.Config.Kind, .int .i64 p.Config.Agg, .int .i64 p.Config.W, .int .i64 p.Config.K, .int .i64 p.Config.Cap, .int .i64 p.Config.P, .int .i64 p.Config.Chains, .int .i64 p.Config.Max, .int .i64 p.T, .int .i64 p.V, .lst 1 false (List.map (eI .i64) p.Draws), .int .i64 p.Query.Op, .int .i64 p.Query.A, .int .i64 p.Query.B, .lst 1 false (List.map (eI .u8) p.Bytes)]
def wf_api_Command (p : api_Command) : Prop := (wfI .i64) p.Op ∧ (wfI .i64) p.ID ∧ wf_api_Config p.Config ∧ (wfI .i64) p.T ∧ (wfI .i64) p.V ∧ (wfL (wfI .i64)) p.Draws ∧ wf_api_Query p.Query ∧ (wfL (wfI .u8)) p.Bytes

structure api_Reply where
  Code : Int
  Answer : api_Answer
  IDs : (List Int)
  Bytes : (List Int)
  deriving Inhabited
def enc_api_Reply (p : api_Reply) : List AV := [.int .i64 p.Code, .int .i64 p.Answer.Bounds.Lo.Num, .int .i64 p.Answer.Bounds.Lo.Den, .int .i64 p.Answer.Bounds.Est.Num, .int .i64 p.Answer.Bounds.Est.Den, .int .i64 p.Answer.Bounds.Hi.Num, .int .i64 p.Answer.Bounds.Hi.Den, .lst 1 false (List.map (eI .i64) p.Answer.Values), .int .u64 p.Answer.Fraction.Num.Hi, .int .u64 p.Answer.Fraction.Num.Lo, .int .u64 p.Answer.Fraction.Den.Hi, .int .u64 p.Answer.Fraction.Den.Lo, .lst 1 false (List.map (eI .i64) p.IDs), .lst 1 false (List.map (eI .u8) p.Bytes)]
def wf_api_Reply (p : api_Reply) : Prop := (wfI .i64) p.Code ∧ wf_api_Answer p.Answer ∧ (wfL (wfI .i64)) p.IDs ∧ (wfL (wfI .u8)) p.Bytes

structure made_Tape where
  L : (List Int)
  At : Int
  deriving Inhabited
def enc_made_Tape (p : made_Tape) : List AV := [.lst 1 false (List.map (eI .i64) p.L), .int .i64 p.At]
def wf_made_Tape (p : made_Tape) : Prop := (wfL (wfI .i64)) p.L ∧ (wfI .i64) p.At

structure ref27_Cursor where
  L : (List Int)
  At : Int
  Bad : Bool
  deriving Inhabited
def enc_ref27_Cursor (p : ref27_Cursor) : List AV := [.lst 1 false (List.map (eI .i64) p.L), .int .i64 p.At, .sb p.Bad]
def wf_ref27_Cursor (p : ref27_Cursor) : Prop := (wfL (wfI .i64)) p.L ∧ (wfI .i64) p.At ∧ (fun _ : Bool => True) p.Bad

structure tape_Tape where
  Bytes : (List Int)
  At : Int
  Reading : Bool
  Bad : Bool
  deriving Inhabited
def enc_tape_Tape (p : tape_Tape) : List AV := [.lst 1 false (List.map (eI .u8) p.Bytes), .int .i64 p.At, .sb p.Reading, .sb p.Bad]
def wf_tape_Tape (p : tape_Tape) : Prop := (wfL (wfI .u8)) p.Bytes ∧ (wfI .i64) p.At ∧ (fun _ : Bool => True) p.Reading ∧ (fun _ : Bool => True) p.Bad

noncomputable def chain_Validate_l6s (p0 : api_Chain) (v6_60 : Int) : Option (Int ⊕ Int) :=
  cond (decide (v6_60 < (p0.Links.length : Int))) (
    Option.bind (idx p0.Links v6_60) fun x11_1 =>
    cond (((((decide (x11_1.V < (-4096:Int))) || (decide (x11_1.V > (4096:Int)))) || (decide (x11_1.I < (1:Int)))) || (decide (x11_1.I > p0.I))) || (decide (x11_1.I ≤ (w64 (p0.I - p0.W))))) (
      some (.inr (2:Int))) <|
    Option.bind (gd (decide (v6_60 > (0:Int))) (idx p0.Links (w64 (v6_60 - (1:Int))))) fun x14_9 =>
    Option.bind (gd ((decide (v6_60 > (0:Int))) && (!(decide (x11_1.I ≤ x14_9.I)))) (idx p0.Links (w64 (v6_60 - (1:Int))))) fun x14_20 =>
    cond ((decide (v6_60 > (0:Int))) && ((decide (x11_1.I ≤ x14_9.I)) || (decide (x11_1.I > (w64 (x14_20.I + p0.W)))))) (
      some (.inr (2:Int))) <|
    some (.inl (w64 (v6_60 + (1:Int))))) <|
  Option.map Sum.inr (Option.bind (gd (!(decide (p0.Next ≤ p0.I))) (idx p0.Links (w64 ((p0.Links.length : Int) - (1:Int))))) fun x17_14 =>
  cond ((decide (p0.Next ≤ p0.I)) || (decide (p0.Next > (w64 (x17_14.I + p0.W))))) (
    some (2:Int)) <|
  some (0:Int))

noncomputable def chain_Validate_l6 (p0 : api_Chain) (v6_60 : Int) : Option Int :=
  loop (fun (s : Int) => chain_Validate_l6s p0 s) v6_60

noncomputable def chain_Validate (p0 : api_Chain) : Option Int :=
  cond (((((((decide (p0.W < (1:Int))) || (decide (p0.W > (1048576:Int)))) || (decide (p0.Cap < (1:Int)))) || (decide (p0.Cap > (64:Int)))) || (decide (p0.I < (0:Int)))) || (decide (p0.I > (1099511627776:Int)))) || (decide ((p0.Links.length : Int) > p0.Cap))) (
    some (2:Int)) <|
  cond (p0.I == (0:Int)) (
    cond ((decide ((p0.Links.length : Int) > (0:Int))) || (p0.Next != (0:Int))) (
      some (2:Int)) <|
    some (0:Int)) <|
  cond ((p0.Links.length : Int) == (0:Int)) (
    some (2:Int)) <|
  chain_Validate_l6 p0 (0:Int)

noncomputable def draw_Next (p0 : (List Int)) (p1 : Int) (p2 : Int) : Option (Int × Int × Int) :=
  cond ((decide (p2 < (1:Int))) || (decide (p1 < (0:Int)))) (
    some ((0:Int), (0:Int), (1:Int))) <|
  Option.bind (gd (!(decide (p1 ≥ (p0.length : Int)))) (idx p0 p1)) fun x3_7 =>
  Option.bind (gd (!((decide (p1 ≥ (p0.length : Int))) || (decide (x3_7 < (0:Int))))) (idx p0 p1)) fun x3_14 =>
  cond (((decide (p1 ≥ (p0.length : Int))) || (decide (x3_7 < (0:Int)))) || (decide (x3_14 ≥ p2))) (
    some ((0:Int), (0:Int), (8:Int))) <|
  Option.bind (idx p0 p1) fun x5_2 =>
  some (x5_2, (w64 (p1 + (1:Int))), (0:Int))

noncomputable def chain_source_next (p0 : chain_source) (p1 : Int) : Option (Int × Int × chain_source) :=
  Option.bind (draw_Next p0.draws_ p0.at_ p1) fun y1_9 =>
  cond (y1_9.2.2 != (0:Int)) (
    cond (decide (p0.at_ ≥ (p0.draws_.length : Int))) (
      some ((0:Int), y1_9.2.2, (chain_source.mk p0.draws_ p0.at_ p1))) <|
    some ((0:Int), y1_9.2.2, p0)) <|
  some (y1_9.1, (0:Int), (chain_source.mk p0.draws_ y1_9.2.1 p0.beyond_))

noncomputable def chain_add_j8 (p0 : api_Chain) (j8_9 : (List api_Link)) (j8_b0_0 : (List Int)) (j8_b0_1 : Int) (j8_b0_2 : Int) (j8_b0x0_3 : Int) : Option (api_Chain × Int × chain_source) :=
  some ((api_Chain.mk p0.W p0.Cap (w64 (p0.I + (1:Int))) j8_b0x0_3 j8_9), (0:Int), (chain_source.mk j8_b0_0 j8_b0_1 j8_b0_2))

noncomputable def chain_add_j5 (p0 : api_Chain) (p1 : Int) (j5_9 : (List api_Link)) (j5_10 : Bool) (j5_b0_0 : (List Int)) (j5_b0_1 : Int) (j5_b0_2 : Int) : Option (api_Chain × Int × chain_source) :=
  cond j5_10 (
    cond ((j5_9.length : Int) == p0.Cap) (
      some ((api_Chain.mk (0:Int) (0:Int) (0:Int) (0:Int) ([] : List api_Link)), (9:Int), (chain_source.mk j5_b0_0 j5_b0_1 j5_b0_2))) <|
    ck (decide ((j5_9.length + [(api_Link.mk (w64 (p0.I + (1:Int))) p1)].length) * 16 ≤ 140737488355328)) <|
    Option.bind (chain_source_next (chain_source.mk j5_b0_0 j5_b0_1 j5_b0_2) p0.W) fun y21_3 =>
    cond (y21_3.2.1 != (0:Int)) (
      some ((api_Chain.mk (0:Int) (0:Int) (0:Int) (0:Int) ([] : List api_Link)), y21_3.2.1, y21_3.2.2)) <|
    chain_add_j8 p0 (j5_9 ++ [(api_Link.mk (w64 (p0.I + (1:Int))) p1)]) y21_3.2.2.draws_ y21_3.2.2.at_ y21_3.2.2.beyond_ (w64 ((w64 ((w64 (p0.I + (1:Int))) + (1:Int))) + y21_3.1))) <|
  chain_add_j8 p0 j5_9 j5_b0_0 j5_b0_1 j5_b0_2 p0.Next

noncomputable def chain_add (p0 : api_Chain) (p1 : Int) (p2 : chain_source) : Option (api_Chain × Int × chain_source) :=
  cond ((decide (p1 < (-4096:Int))) || (decide (p1 > (4096:Int)))) (
    some ((api_Chain.mk (0:Int) (0:Int) (0:Int) (0:Int) ([] : List api_Link)), (4:Int), p2)) <|
  cond (decide (p2.at_ < (0:Int))) (
    some ((api_Chain.mk (0:Int) (0:Int) (0:Int) (0:Int) ([] : List api_Link)), (1:Int), p2)) <|
  cond (p0.I == (1099511627776:Int)) (
    some ((api_Chain.mk (0:Int) (0:Int) (0:Int) (0:Int) ([] : List api_Link)), (5:Int), p2)) <|
  ck (decide ((([] : List api_Link).length + p0.Links.length) * 16 ≤ 140737488355328)) <|
  Option.bind (gd (decide (((([] : List api_Link) ++ p0.Links).length : Int) > (0:Int))) (idx (([] : List api_Link) ++ p0.Links) (0:Int))) fun x10_5 =>
  Option.bind (gd (decide (((([] : List api_Link) ++ p0.Links).length : Int) > (0:Int))) (idx (([] : List api_Link) ++ p0.Links) (0:Int))) fun x10_7 =>
  cond ((decide (((([] : List api_Link) ++ p0.Links).length : Int) > (0:Int))) && (x10_7.I == (w64 ((w64 (p0.I + (1:Int))) - p0.W)))) (
    ck (decide (0 ≤ (1:Int) ∧ (1:Int) ≤ ((([] : List api_Link) ++ p0.Links).length : Int))) <|
    chain_add_j5 p0 p1 ((([] : List api_Link) ++ p0.Links).drop ((1:Int)).toNat) (p0.Next == (w64 (p0.I + (1:Int)))) p2.draws_ p2.at_ p2.beyond_) <|
  Option.bind (chain_source_next p2 (imin (w64 (p0.I + (1:Int))) p0.W)) fun y12_5 =>
  cond (y12_5.2.1 != (0:Int)) (
    some ((api_Chain.mk (0:Int) (0:Int) (0:Int) (0:Int) ([] : List api_Link)), y12_5.2.1, y12_5.2.2)) <|
  cond (y12_5.1 == (0:Int)) (
    chain_add_j5 p0 p1 ([] : List api_Link) true y12_5.2.2.draws_ y12_5.2.2.at_ y12_5.2.2.beyond_) <|
  chain_add_j5 p0 p1 (([] : List api_Link) ++ p0.Links) (p0.Next == (w64 (p0.I + (1:Int)))) y12_5.2.2.draws_ y12_5.2.2.at_ y12_5.2.2.beyond_

noncomputable def chain_Add (p0 : api_Chain) (p1 : Int) (p2 : (List Int)) (p3 : Int) : Option (api_Chain × Int × Int) :=
  Option.bind (chain_Validate p0) fun y1_1 =>
  cond (y1_1 != (0:Int)) (
    some ((api_Chain.mk (0:Int) (0:Int) (0:Int) (0:Int) ([] : List api_Link)), (0:Int), y1_1)) <|
  Option.bind (chain_add p0 p1 (chain_source.mk p2 p3 (0:Int))) fun y5_3 =>
  cond (y5_3.2.1 != (0:Int)) (
    some ((api_Chain.mk (0:Int) (0:Int) (0:Int) (0:Int) ([] : List api_Link)), (0:Int), y5_3.2.1)) <|
  some (y5_3.1, y5_3.2.2.at_, (0:Int))

noncomputable def chain_Ask (p0 : api_Chain) : Option (Int × Int) :=
  Option.bind (chain_Validate p0) fun y1_1 =>
  cond (y1_1 != (0:Int)) (
    some ((0:Int), y1_1)) <|
  cond ((p0.Links.length : Int) == (0:Int)) (
    some ((0:Int), (7:Int))) <|
  Option.bind (idx p0.Links (0:Int)) fun x6_2 =>
  some (x6_2.V, (0:Int))

noncomputable def chain_Needs (p0 : api_Chain) (p1 : Int) (p2 : (List Int)) (p3 : Int) : Option (Int × Bool) :=
  Option.bind (chain_Validate p0) fun y1_1 =>
  cond (y1_1 != (0:Int)) (
    some ((0:Int), false)) <|
  Option.bind (chain_add p0 p1 (chain_source.mk p2 p3 (0:Int))) fun y4_3 =>
  cond ((y4_3.2.1 != (8:Int)) || (y4_3.2.2.beyond_ == (0:Int))) (
    some ((0:Int), false)) <|
  some (y4_3.2.2.beyond_, true)

noncomputable def chain_New (p0 : Int) (p1 : Int) : (api_Chain × Int) :=
  cond ((((decide (p0 < (1:Int))) || (decide (p0 > (1048576:Int)))) || (decide (p1 < (1:Int)))) || (decide (p1 > (64:Int)))) (
    ((api_Chain.mk (0:Int) (0:Int) (0:Int) (0:Int) ([] : List api_Link)), (1:Int))) <|
  ((api_Chain.mk p0 p1 (0:Int) (0:Int) ([] : List api_Link)), (0:Int))

noncomputable def clock_tick (p0 : Int) : Bool :=
  ((decide (p0 ≥ (0:Int))) && (decide (p0 ≤ (16777216:Int))))

noncomputable def clock_Advance (p0 : Int) (p1 : Int) : (Int × Int) :=
  let y1_1 := (clock_tick p0);
  cond (!y1_1) (
    ((0:Int), (1:Int))) <|
  cond ((decide (p1 < p0)) || (decide (p1 > (16777216:Int)))) (
    ((0:Int), (3:Int))) <|
  (p1, (0:Int))

noncomputable def clock_First (p0 : Int) (p1 : Int) : Int :=
  let y1_1 := (clock_tick p0);
  cond (((!y1_1) || (decide (p1 < (1:Int)))) || (decide (p1 > (1048576:Int)))) (
    (-1:Int)) <|
  (imax (0:Int) (w64 ((w64 (p0 - p1)) + (1:Int))))

noncomputable def clock_Live (p0 : Int) (p1 : Int) (p2 : Int) : Bool :=
  let y1_2 := (clock_First p0 p1);
  let y2_4 := (clock_tick p2);
  ((((decide (y1_2 ≥ (0:Int))) && y2_4) && (decide (y1_2 ≤ p2))) && (decide (p2 ≤ p0)))

noncomputable def exact_tick (p0 : Int) : Bool :=
  ((decide (p0 ≥ (0:Int))) && (decide (p0 ≤ (16777216:Int))))

noncomputable def exact_Valid_l3s (p0 : (List api_Item)) (p1 : Int) (v3_12 : Int) : Option (Int ⊕ Bool) :=
  cond (decide (v3_12 < (p0.length : Int))) (
    Option.bind (idx p0 v3_12) fun x5_1 =>
    Option.bind (gd ((!((decide (x5_1.T < (0:Int))) || (decide (x5_1.T > p1)))) && (decide (v3_12 > (0:Int)))) (idx p0 (w64 (v3_12 - (1:Int))))) fun x6_16 =>
    cond (((decide (x5_1.T < (0:Int))) || (decide (x5_1.T > p1))) || ((decide (v3_12 > (0:Int))) && (decide (x6_16.T > x5_1.T)))) (
      some (.inr false)) <|
    some (.inl (w64 (v3_12 + (1:Int))))) <|
  Option.map Sum.inr (some true)

noncomputable def exact_Valid_l3 (p0 : (List api_Item)) (p1 : Int) (v3_12 : Int) : Option Bool :=
  loop (fun (s : Int) => exact_Valid_l3s p0 p1 s) v3_12

noncomputable def exact_Valid (p0 : (List api_Item)) (p1 : Int) : Option Bool :=
  let y1_1 := (exact_tick p1);
  cond (!y1_1) (
    some false) <|
  exact_Valid_l3 p0 p1 (0:Int)

noncomputable def exact_Live_l3s (p0 : (List api_Item)) (p1 : Int) (p2 : Int) (v3_7 : (List api_Item)) (v3_16 : Int) : Option (((List api_Item) × Int) ⊕ (List api_Item)) :=
  cond (decide (v3_16 < (p0.length : Int))) (
    Option.bind (idx p0 v3_16) fun x6_0 =>
    let y7_4 := (clock_Live p1 p2 x6_0.T);
    cond y7_4 (
      ck (decide ((v3_7.length + [x6_0].length) * 16 ≤ 140737488355328)) <|
      some (.inl ((v3_7 ++ [x6_0]), (w64 (v3_16 + (1:Int)))))) <|
    some (.inl (v3_7, (w64 (v3_16 + (1:Int)))))) <|
  Option.map Sum.inr (some v3_7)

noncomputable def exact_Live_l3 (p0 : (List api_Item)) (p1 : Int) (p2 : Int) (v3_7 : (List api_Item)) (v3_16 : Int) : Option (List api_Item) :=
  loop (fun (s : ((List api_Item) × Int)) => exact_Live_l3s p0 p1 p2 s.1 s.2) (v3_7, v3_16)

noncomputable def exact_Live (p0 : (List api_Item)) (p1 : Int) (p2 : Int) : Option (List api_Item) :=
  Option.bind (exact_Valid p0 p1) fun y1_2 =>
  cond (!y1_2) (
    some ([] : List api_Item)) <|
  exact_Live_l3 p0 p1 p2 ([] : List api_Item) (0:Int)

noncomputable def recent_good (p0 : Int) (p1 : Int) (p2 : Int) : Bool :=
  ((((((decide (p0 ≥ (1:Int))) && (decide (p0 ≤ (1048576:Int)))) && (decide (p1 ≥ (1:Int)))) && (decide (p1 ≤ (65536:Int)))) && (decide (p2 ≥ (0:Int)))) && (decide (p2 ≤ (16777216:Int))))

noncomputable def recent_value (p0 : Int) : Bool :=
  ((decide (p0 ≥ (-4096:Int))) && (decide (p0 ≤ (4096:Int))))

noncomputable def recent_Validate_l3s (p0 : api_Recent) (v3_32 : Int) : Option (Int ⊕ Int) :=
  cond (decide (v3_32 < (p0.Items.length : Int))) (
    Option.bind (idx p0.Items v3_32) fun x5_0 =>
    let y6_6 := (clock_Live p0.Now p0.W x5_0.T);
    let y6_11 := (recent_value x5_0.V);
    cond ((!y6_6) || (!y6_11)) (
      some (.inr (2:Int))) <|
    some (.inl (w64 (v3_32 + (1:Int))))) <|
  Option.map Sum.inr (some (0:Int))

noncomputable def recent_Validate_l3 (p0 : api_Recent) (v3_32 : Int) : Option Int :=
  loop (fun (s : Int) => recent_Validate_l3s p0 s) v3_32

noncomputable def recent_Validate (p0 : api_Recent) : Option Int :=
  let y1_6 := (recent_good p0.W p0.Cap p0.Now);
  Option.bind (gd (!((!y1_6) || (decide ((p0.Items.length : Int) > p0.Cap)))) (exact_Valid p0.Items p0.Now)) fun y1_21 =>
  cond (((!y1_6) || (decide ((p0.Items.length : Int) > p0.Cap))) || (!y1_21)) (
    some (2:Int)) <|
  recent_Validate_l3 p0 (0:Int)

noncomputable def recent_Add (p0 : api_Recent) (p1 : Int) : Option (api_Recent × Int) :=
  Option.bind (recent_Validate p0) fun y1_1 =>
  cond (y1_1 != (0:Int)) (
    some ((api_Recent.mk (0:Int) (0:Int) (0:Int) ([] : List api_Item)), y1_1)) <|
  let y4_1 := (recent_value p1);
  cond (!y4_1) (
    some ((api_Recent.mk (0:Int) (0:Int) (0:Int) ([] : List api_Item)), (4:Int))) <|
  cond ((p0.Items.length : Int) == p0.Cap) (
    some ((api_Recent.mk (0:Int) (0:Int) (0:Int) ([] : List api_Item)), (5:Int))) <|
  ck (decide (0 ≤ (p0.Items.length : Int) ∧ (p0.Items.length : Int) = (p0.Items.length : Int) ∧ (p0.Items.length : Int) ≤ (p0.Items.length : Int))) <|
  ck (decide ([(api_Item.mk p0.Now p1)] ≠ [] ∧ ((p0.Items.take ((p0.Items.length : Int)).toNat).length + [(api_Item.mk p0.Now p1)].length) * 16 ≤ 140737488355328)) <|
  some ((api_Recent.mk p0.W p0.Cap p0.Now ((p0.Items.take ((p0.Items.length : Int)).toNat) ++ [(api_Item.mk p0.Now p1)])), (0:Int))

noncomputable def recent_New (p0 : Int) (p1 : Int) (p2 : Int) : (api_Recent × Int) :=
  let y1_3 := (recent_good p0 p1 p2);
  cond (!y1_3) (
    ((api_Recent.mk (0:Int) (0:Int) (0:Int) ([] : List api_Item)), (1:Int))) <|
  ((api_Recent.mk p0 p1 p2 ([] : List api_Item)), (0:Int))

noncomputable def law09_awake : Option Bool :=
  let y1_0 := (recent_New (3:Int) (2:Int) (0:Int));
  Option.bind (recent_Add y1_0.1 (5:Int)) fun y2_1 =>
  some (((y1_0.2 == (0:Int)) && (y2_1.2 == (0:Int))) && ((y2_1.1.Items.length : Int) == (1:Int)))

noncomputable def made_Mod (p0 : Int) (p1 : Int) : Option Int :=
  ck (decide (p1 ≠ 0)) <|
  cond (decide ((Int.tmod p0 p1) < (0:Int))) (
    some (w64 ((Int.tmod p0 p1) + p1))) <|
  some (Int.tmod p0 p1)

noncomputable def made_Int (p0 : Int) (p1 : Int) : Option Int :=
  Option.bind (made_Mod p0 p1) fun y1_2 =>
  some y1_2

noncomputable def made_Gap_j3 (p0 : Int) (j3_17 : Bool) : Option Int :=
  cond j3_17 (
    Option.bind (made_Mod (w64 (Int.tdiv p0 (8:Int))) (3:Int)) fun y7_1 =>
    some (w64 ((1:Int) + y7_1))) <|
  some (0:Int)

noncomputable def made_Gap (p0 : Int) (p1 : Int) : Option Int :=
  Option.bind (made_Mod p0 (8:Int)) fun y2_1 =>
  cond (y2_1 == (0:Int)) (
    Option.bind (made_Mod (w64 (Int.tdiv p0 (8:Int))) (w64 ((w64 ((2:Int) * p1)) + (2:Int)))) fun y4_4 =>
    some y4_4) <|
  cond (y2_1 == (1:Int)) (
    made_Gap_j3 p0 (y2_1 == (1:Int))) <|
  made_Gap_j3 p0 (y2_1 == (2:Int))

noncomputable def made_Value (p0 : Int) : Option Int :=
  Option.bind (made_Mod p0 (8:Int)) fun y2_1 =>
  cond (y2_1 == (0:Int)) (
    Option.bind (made_Mod (w64 (Int.tdiv p0 (8:Int))) (8193:Int)) fun y4_1 =>
    some (w64 (y4_1 - (4096:Int)))) <|
  cond (y2_1 == (1:Int)) (
    Option.bind (made_Mod (w64 (Int.tdiv p0 (8:Int))) (2:Int)) fun y6_1 =>
    some (w64 ((4096:Int) * (w64 ((w64 ((2:Int) * y6_1)) - (1:Int)))))) <|
  Option.bind (made_Mod (w64 (Int.tdiv p0 (8:Int))) (13:Int)) fun y7_1 =>
  some (w64 (y7_1 - (6:Int)))

noncomputable def made_Items_l2s (p0 : (List api_Item)) (p1 : Int) (p2 : Int) (v2_7 : (List api_Item)) (v2_8 : Int) (v2_9 : Int) : Option (((List api_Item) × Int × Int) ⊕ (List api_Item)) :=
  cond ((decide (v2_9 < (p0.length : Int))) && (decide (v2_9 < p2))) (
    Option.bind (idx p0 v2_9) fun x6_3 =>
    Option.bind (made_Gap x6_3.T p1) fun y6_7 =>
    Option.bind (idx p0 v2_9) fun x7_4 =>
    Option.bind (made_Value x7_4.V) fun y7_7 =>
    ck (decide ((v2_7.length + [(api_Item.mk (w64 (v2_8 + y6_7)) y7_7)].length) * 16 ≤ 140737488355328)) <|
    some (.inl ((v2_7 ++ [(api_Item.mk (w64 (v2_8 + y6_7)) y7_7)]), (w64 (v2_8 + y6_7)), (w64 (v2_9 + (1:Int)))))) <|
  Option.map Sum.inr (some v2_7)

noncomputable def made_Items_l2 (p0 : (List api_Item)) (p1 : Int) (p2 : Int) (v2_7 : (List api_Item)) (v2_8 : Int) (v2_9 : Int) : Option (List api_Item) :=
  loop (fun (s : ((List api_Item) × Int × Int)) => made_Items_l2s p0 p1 p2 s.1 s.2.1 s.2.2) (v2_7, v2_8, v2_9)

noncomputable def made_Items (p0 : (List api_Item)) (p1 : Int) (p2 : Int) : Option (List api_Item) :=
  made_Items_l2 p0 p1 p2 ([] : List api_Item) (0:Int) (0:Int)

noncomputable def made_Live_l2s (p0 : (List api_Item)) (p1 : Int) (p2 : Int) (v2_7 : (List api_Item)) (v2_12 : Int) : Option (((List api_Item) × Int) ⊕ (List api_Item)) :=
  cond (decide (v2_12 < (p0.length : Int))) (
    Option.bind (idx p0 v2_12) fun x4_0 =>
    cond ((decide (x4_0.T > (w64 (p1 - p2)))) && (decide (x4_0.T ≤ p1))) (
      ck (decide ((v2_7.length + [x4_0].length) * 16 ≤ 140737488355328)) <|
      some (.inl ((v2_7 ++ [x4_0]), (w64 (v2_12 + (1:Int)))))) <|
    some (.inl (v2_7, (w64 (v2_12 + (1:Int)))))) <|
  Option.map Sum.inr (some v2_7)

noncomputable def made_Live_l2 (p0 : (List api_Item)) (p1 : Int) (p2 : Int) (v2_7 : (List api_Item)) (v2_12 : Int) : Option (List api_Item) :=
  loop (fun (s : ((List api_Item) × Int)) => made_Live_l2s p0 p1 p2 s.1 s.2) (v2_7, v2_12)

noncomputable def made_Live (p0 : (List api_Item)) (p1 : Int) (p2 : Int) : Option (List api_Item) :=
  made_Live_l2 p0 p1 p2 ([] : List api_Item) (0:Int)

noncomputable def recent_Advance (p0 : api_Recent) (p1 : Int) : Option (api_Recent × Int) :=
  Option.bind (recent_Validate p0) fun y1_1 =>
  cond (y1_1 != (0:Int)) (
    some ((api_Recent.mk (0:Int) (0:Int) (0:Int) ([] : List api_Item)), y1_1)) <|
  let y4_3 := (clock_Advance p0.Now p1);
  cond (y4_3.2 != (0:Int)) (
    some ((api_Recent.mk (0:Int) (0:Int) (0:Int) ([] : List api_Item)), y4_3.2)) <|
  Option.bind (exact_Live p0.Items p1 p0.W) fun y8_5 =>
  some ((api_Recent.mk p0.W p0.Cap p1 y8_5), (0:Int))

noncomputable def ref05_SameItems_l3s (p0 : (List api_Item)) (p1 : (List api_Item)) (v3_13 : Int) : Option (Int ⊕ Bool) :=
  cond (decide (v3_13 < (p0.length : Int))) (
    Option.bind (idx p0 v3_13) fun x6_2 =>
    Option.bind (idx p1 v3_13) fun x6_6 =>
    cond (!(x6_2.T == x6_6.T && (x6_2.V == x6_6.V && true))) (
      some (.inr false)) <|
    some (.inl (w64 (v3_13 + (1:Int))))) <|
  Option.map Sum.inr (some true)

noncomputable def ref05_SameItems_l3 (p0 : (List api_Item)) (p1 : (List api_Item)) (v3_13 : Int) : Option Bool :=
  loop (fun (s : Int) => ref05_SameItems_l3s p0 p1 s) v3_13

noncomputable def ref05_SameItems (p0 : (List api_Item)) (p1 : (List api_Item)) : Option Bool :=
  cond ((p0.length : Int) != (p1.length : Int)) (
    some false) <|
  ref05_SameItems_l3 p0 p1 (0:Int)

noncomputable def law09_RecentRuns_j8 (v3_32 : Int) (j8_9 : (List api_Item)) (j8_b2x6_0 : Int) (j8_b2x6_1 : Int) (j8_b2x6_2 : Int) (j8_b2x6_3 : (List api_Item)) : Option (((List api_Item) × Int × Int × Int × Int × (List api_Item)) ⊕ Bool) :=
  Option.bind (ref05_SameItems j8_b2x6_3 j8_9) fun y18_3 =>
  cond (!y18_3) (
    some (.inr false)) <|
  some (.inl (j8_9, (w64 (v3_32 + (1:Int))), j8_b2x6_0, j8_b2x6_1, j8_b2x6_2, j8_b2x6_3))

noncomputable def law09_RecentRuns_l3s (y1_1 : Int) (y1_4 : Int) (y6_2 : (List api_Item)) (v3_9 : (List api_Item)) (v3_32 : Int) (v3_b2x6_0 : Int) (v3_b2x6_1 : Int) (v3_b2x6_2 : Int) (v3_b2x6_3 : (List api_Item)) : Option (((List api_Item) × Int × Int × Int × Int × (List api_Item)) ⊕ Bool) :=
  cond (decide (v3_32 < (y6_2.length : Int))) (
    Option.bind (idx y6_2 v3_32) fun x8_0 =>
    Option.bind (recent_Advance (api_Recent.mk v3_b2x6_0 v3_b2x6_1 v3_b2x6_2 v3_b2x6_3) x8_0.T) fun y9_3 =>
    cond (y9_3.2 != (0:Int)) (
      some (.inr false)) <|
    Option.bind (made_Live v3_9 x8_0.T (w64 ((1:Int) + y1_1))) fun y12_4 =>
    Option.bind (recent_Add y9_3.1 x8_0.V) fun y13_3 =>
    cond ((!((y13_3.2 == (5:Int)) == ((y12_4.length : Int) == (w64 ((1:Int) + y1_4))))) || ((y13_3.2 != (0:Int)) && (y13_3.2 != (5:Int)))) (
      some (.inr false)) <|
    cond (y13_3.2 == (0:Int)) (
      ck (decide ((([] : List api_Item).length + y12_4.length) * 16 ≤ 140737488355328)) <|
      ck (decide (((([] : List api_Item) ++ y12_4).length + [x8_0].length) * 16 ≤ 140737488355328)) <|
      law09_RecentRuns_j8 v3_32 ((([] : List api_Item) ++ y12_4) ++ [x8_0]) y13_3.1.W y13_3.1.Cap y13_3.1.Now y13_3.1.Items) <|
    law09_RecentRuns_j8 v3_32 y12_4 y9_3.1.W y9_3.1.Cap y9_3.1.Now y9_3.1.Items) <|
  Option.map Sum.inr (Option.bind law09_awake fun y21_0 =>
  some y21_0)

noncomputable def law09_RecentRuns_l3 (y1_1 : Int) (y1_4 : Int) (y6_2 : (List api_Item)) (v3_9 : (List api_Item)) (v3_32 : Int) (v3_b2x6_0 : Int) (v3_b2x6_1 : Int) (v3_b2x6_2 : Int) (v3_b2x6_3 : (List api_Item)) : Option Bool :=
  loop (fun (s : ((List api_Item) × Int × Int × Int × Int × (List api_Item))) => law09_RecentRuns_l3s y1_1 y1_4 y6_2 s.1 s.2.1 s.2.2.1 s.2.2.2.1 s.2.2.2.2.1 s.2.2.2.2.2) (v3_9, v3_32, v3_b2x6_0, v3_b2x6_1, v3_b2x6_2, v3_b2x6_3)

noncomputable def law09_RecentRuns (p0 : (List api_Item)) (p1 : Int) (p2 : Int) : Option Bool :=
  Option.bind (made_Mod p1 (20:Int)) fun y1_1 =>
  Option.bind (made_Int p2 (30:Int)) fun y1_4 =>
  let y2_2 := (recent_New (w64 ((1:Int) + y1_1)) (w64 ((1:Int) + y1_4)) (0:Int));
  cond (y2_2.2 != (0:Int)) (
    some false) <|
  Option.bind (made_Items p0 (w64 ((1:Int) + y1_1)) (60:Int)) fun y6_2 =>
  law09_RecentRuns_l3 y1_1 y1_4 y6_2 ([] : List api_Item) (0:Int) y2_2.1.W y2_2.1.Cap y2_2.1.Now y2_2.1.Items

noncomputable def law09_few (p0 : api_Recent) : Bool :=
  (decide ((p0.Items.length : Int) ≤ (200:Int)))

noncomputable def ref06_Tick (p0 : Int) : Bool :=
  ((decide (p0 ≥ (0:Int))) && (decide (p0 ≤ (16777216:Int))))

noncomputable def ref06_Window (p0 : Int) : Bool :=
  ((decide (p0 ≥ (1:Int))) && (decide (p0 ≤ (1048576:Int))))

noncomputable def ref06_Live (p0 : Int) (p1 : Int) (p2 : Int) : Bool :=
  let y1_1 := (ref06_Tick p0);
  let y1_4 := (ref06_Window p1);
  let y1_8 := (ref06_Tick p2);
  ((((y1_1 && y1_4) && y1_8) && (decide (p2 > (w64 (p0 - p1))))) && (decide (p2 ≤ p0)))

noncomputable def ref08_Valid_l3s (p0 : (List api_Item)) (p1 : Int) (v3_12 : Int) : Option (Int ⊕ Bool) :=
  cond (decide (v3_12 < (p0.length : Int))) (
    Option.bind (idx p0 v3_12) fun x5_1 =>
    Option.bind (gd ((!((decide (x5_1.T < (0:Int))) || (decide (x5_1.T > p1)))) && (decide (v3_12 > (0:Int)))) (idx p0 (w64 (v3_12 - (1:Int))))) fun x6_16 =>
    cond (((decide (x5_1.T < (0:Int))) || (decide (x5_1.T > p1))) || ((decide (v3_12 > (0:Int))) && (decide (x6_16.T > x5_1.T)))) (
      some (.inr false)) <|
    some (.inl (w64 (v3_12 + (1:Int))))) <|
  Option.map Sum.inr (some true)

noncomputable def ref08_Valid_l3 (p0 : (List api_Item)) (p1 : Int) (v3_12 : Int) : Option Bool :=
  loop (fun (s : Int) => ref08_Valid_l3s p0 p1 s) v3_12

noncomputable def ref08_Valid (p0 : (List api_Item)) (p1 : Int) : Option Bool :=
  let y1_1 := (ref06_Tick p1);
  cond (!y1_1) (
    some false) <|
  ref08_Valid_l3 p0 p1 (0:Int)

noncomputable def ref09_May (p0 : Int) (p1 : Int) (p2 : Int) : Bool :=
  let y1_1 := (ref06_Window p0);
  let y1_12 := (ref06_Tick p2);
  (((y1_1 && (decide (p1 ≥ (1:Int)))) && (decide (p1 ≤ (65536:Int)))) && y1_12)

noncomputable def ref09_Value (p0 : Int) : Bool :=
  ((decide (p0 ≥ (-4096:Int))) && (decide (p0 ≤ (4096:Int))))

noncomputable def ref09_Validate_l3s (p0 : api_Recent) (v3_32 : Int) : Option (Int ⊕ Int) :=
  cond (decide (v3_32 < (p0.Items.length : Int))) (
    Option.bind (idx p0.Items v3_32) fun x5_0 =>
    let y6_6 := (ref06_Live p0.Now p0.W x5_0.T);
    let y6_11 := (ref09_Value x5_0.V);
    cond ((!y6_6) || (!y6_11)) (
      some (.inr (2:Int))) <|
    some (.inl (w64 (v3_32 + (1:Int))))) <|
  Option.map Sum.inr (some (0:Int))

noncomputable def ref09_Validate_l3 (p0 : api_Recent) (v3_32 : Int) : Option Int :=
  loop (fun (s : Int) => ref09_Validate_l3s p0 s) v3_32

noncomputable def ref09_Validate (p0 : api_Recent) : Option Int :=
  let y1_6 := (ref09_May p0.W p0.Cap p0.Now);
  Option.bind (gd (!((!y1_6) || (decide ((p0.Items.length : Int) > p0.Cap)))) (ref08_Valid p0.Items p0.Now)) fun y1_21 =>
  cond (((!y1_6) || (decide ((p0.Items.length : Int) > p0.Cap))) || (!y1_21)) (
    some (2:Int)) <|
  ref09_Validate_l3 p0 (0:Int)

noncomputable def ref09_Add (p0 : api_Recent) (p1 : Int) : Option (api_Recent × Int) :=
  Option.bind (ref09_Validate p0) fun y1_1 =>
  cond (y1_1 != (0:Int)) (
    some ((api_Recent.mk (0:Int) (0:Int) (0:Int) ([] : List api_Item)), y1_1)) <|
  let y4_1 := (ref09_Value p1);
  cond (!y4_1) (
    some ((api_Recent.mk (0:Int) (0:Int) (0:Int) ([] : List api_Item)), (4:Int))) <|
  cond ((p0.Items.length : Int) == p0.Cap) (
    some ((api_Recent.mk (0:Int) (0:Int) (0:Int) ([] : List api_Item)), (5:Int))) <|
  ck (decide ((([] : List api_Item).length + p0.Items.length) * 16 ≤ 140737488355328)) <|
  ck (decide (((([] : List api_Item) ++ p0.Items).length + [(api_Item.mk p0.Now p1)].length) * 16 ≤ 140737488355328)) <|
  some ((api_Recent.mk p0.W p0.Cap p0.Now ((([] : List api_Item) ++ p0.Items) ++ [(api_Item.mk p0.Now p1)])), (0:Int))

noncomputable def ref06_Back (p0 : Int) (p1 : Int) : Int :=
  cond ((decide (p1 < p0)) || (decide (p1 > (16777216:Int)))) (
    (3:Int)) <|
  (0:Int)

noncomputable def ref08_Live_l3s (p0 : (List api_Item)) (p1 : Int) (p2 : Int) (v3_7 : (List api_Item)) (v3_21 : Int) : Option (((List api_Item) × Int) ⊕ (List api_Item)) :=
  cond (decide (v3_21 < (p0.length : Int))) (
    Option.bind (idx p0 v3_21) fun x6_0 =>
    let y7_4 := (ref06_Live p1 p2 x6_0.T);
    cond y7_4 (
      ck (decide ((v3_7.length + [x6_0].length) * 16 ≤ 140737488355328)) <|
      some (.inl ((v3_7 ++ [x6_0]), (w64 (v3_21 + (1:Int)))))) <|
    some (.inl (v3_7, (w64 (v3_21 + (1:Int)))))) <|
  Option.map Sum.inr (some v3_7)

noncomputable def ref08_Live_l3 (p0 : (List api_Item)) (p1 : Int) (p2 : Int) (v3_7 : (List api_Item)) (v3_21 : Int) : Option (List api_Item) :=
  loop (fun (s : ((List api_Item) × Int)) => ref08_Live_l3s p0 p1 p2 s.1 s.2) (v3_7, v3_21)

noncomputable def ref08_Live (p0 : (List api_Item)) (p1 : Int) (p2 : Int) : Option (List api_Item) :=
  Option.bind (ref08_Valid p0 p1) fun y1_2 =>
  let y1_6 := (ref06_Window p2);
  cond ((!y1_2) || (!y1_6)) (
    some ([] : List api_Item)) <|
  ref08_Live_l3 p0 p1 p2 ([] : List api_Item) (0:Int)

noncomputable def ref09_Advance (p0 : api_Recent) (p1 : Int) : Option (api_Recent × Int) :=
  Option.bind (ref09_Validate p0) fun y1_1 =>
  cond (y1_1 != (0:Int)) (
    some ((api_Recent.mk (0:Int) (0:Int) (0:Int) ([] : List api_Item)), y1_1)) <|
  let y4_3 := (ref06_Back p0.Now p1);
  cond (y4_3 != (0:Int)) (
    some ((api_Recent.mk (0:Int) (0:Int) (0:Int) ([] : List api_Item)), y4_3)) <|
  Option.bind (ref08_Live p0.Items p1 p0.W) fun y7_10 =>
  some ((api_Recent.mk p0.W p0.Cap p1 y7_10), (0:Int))

noncomputable def ref09_Same (p0 : api_Recent) (p1 : api_Recent) : Option Bool :=
  Option.bind (gd (((p0.W == p1.W) && (p0.Cap == p1.Cap)) && (p0.Now == p1.Now)) (ref05_SameItems p0.Items p1.Items)) fun y1_24 =>
  some ((((p0.W == p1.W) && (p0.Cap == p1.Cap)) && (p0.Now == p1.Now)) && y1_24)

noncomputable def law09_RecentStates (p0 : api_Recent) (p1 : Int) (p2 : Int) : Option Bool :=
  let y1_1 := (law09_few p0);
  cond (!y1_1) (
    Option.bind law09_awake fun y2_0 =>
    some y2_0) <|
  Option.bind (recent_Advance p0 p1) fun y3_2 =>
  Option.bind (ref09_Advance p0 p1) fun y4_2 =>
  Option.bind (recent_Add p0 p2) fun y5_2 =>
  Option.bind (ref09_Add p0 p2) fun y6_2 =>
  Option.bind (recent_Validate p0) fun y7_1 =>
  Option.bind (ref09_Validate p0) fun y7_3 =>
  Option.bind (gd (y7_1 == y7_3) (ref09_Same y3_2.1 y4_2.1)) fun y7_8 =>
  Option.bind (gd (((y7_1 == y7_3) && y7_8) && (y3_2.2 == y4_2.2)) (ref09_Same y5_2.1 y6_2.1)) fun y7_18 =>
  Option.bind (gd (((((y7_1 == y7_3) && y7_8) && (y3_2.2 == y4_2.2)) && y7_18) && (y5_2.2 == y6_2.2)) law09_awake) fun y7_26 =>
  some ((((((y7_1 == y7_3) && y7_8) && (y3_2.2 == y4_2.2)) && y7_18) && (y5_2.2 == y6_2.2)) && y7_26)

noncomputable def law18_awake : Option Bool :=
  let y1_0 := (chain_New (2:Int) (5:Int));
  Option.bind (chain_Add y1_0.1 (7:Int) [(0:Int), (1:Int)] (0:Int)) fun y2_2 =>
  Option.bind (chain_Ask y2_2.1) fun y3_1 =>
  some ((((((y1_0.2 == (0:Int)) && (y2_2.2.2 == (0:Int))) && (y3_1.2 == (0:Int))) && (y2_2.2.1 == (2:Int))) && (y3_1.1 == (7:Int))) && (y2_2.1.Next == (3:Int)))

noncomputable def law18_few (p0 : api_Chain) : Bool :=
  (decide ((p0.Links.length : Int) ≤ (200:Int)))

noncomputable def ref18_Validate_l6s (p0 : api_Chain) (v6_77 : Int) : Option (Int ⊕ Int) :=
  cond (decide (v6_77 < (p0.Links.length : Int))) (
    Option.bind (idx p0.Links v6_77) fun x11_1 =>
    let y12_2 := (ref09_Value x11_1.V);
    Option.bind (gd ((!((!y12_2) || (decide (x11_1.I > p0.I)))) && (decide (v6_77 > (0:Int)))) (idx p0.Links (w64 (v6_77 - (1:Int))))) fun x12_21 =>
    Option.bind (gd (((!((!y12_2) || (decide (x11_1.I > p0.I)))) && (decide (v6_77 > (0:Int)))) && (!(decide (x11_1.I ≤ x12_21.I)))) (idx p0.Links (w64 (v6_77 - (1:Int))))) fun x12_32 =>
    cond (((!y12_2) || (decide (x11_1.I > p0.I))) || ((decide (v6_77 > (0:Int))) && ((decide (x11_1.I ≤ x12_21.I)) || (decide (x11_1.I > (w64 (x12_32.I + p0.W))))))) (
      some (.inr (2:Int))) <|
    some (.inl (w64 (v6_77 + (1:Int))))) <|
  Option.map Sum.inr (Option.bind (gd (!(decide (p0.Next ≤ p0.I))) (idx p0.Links (w64 ((p0.Links.length : Int) - (1:Int))))) fun x15_14 =>
  cond ((decide (p0.Next ≤ p0.I)) || (decide (p0.Next > (w64 (x15_14.I + p0.W))))) (
    some (2:Int)) <|
  some (0:Int))

noncomputable def ref18_Validate_l6 (p0 : api_Chain) (v6_77 : Int) : Option Int :=
  loop (fun (s : Int) => ref18_Validate_l6s p0 s) v6_77

noncomputable def ref18_Validate (p0 : api_Chain) : Option Int :=
  let y1_2 := (ref06_Window p0.W);
  cond ((((((!y1_2) || (decide (p0.Cap < (1:Int)))) || (decide (p0.Cap > (64:Int)))) || (decide (p0.I < (0:Int)))) || (decide (p0.I > (1099511627776:Int)))) || (decide ((p0.Links.length : Int) > p0.Cap))) (
    some (2:Int)) <|
  cond (p0.I == (0:Int)) (
    cond (((p0.Links.length : Int) != (0:Int)) || (p0.Next != (0:Int))) (
      some (2:Int)) <|
    some (0:Int)) <|
  Option.bind (gd (!((p0.Links.length : Int) == (0:Int))) (idx p0.Links (0:Int))) fun x7_7 =>
  Option.bind (gd (!(((p0.Links.length : Int) == (0:Int)) || (decide (x7_7.I ≤ (w64 (p0.I - p0.W)))))) (idx p0.Links (0:Int))) fun x7_20 =>
  cond ((((p0.Links.length : Int) == (0:Int)) || (decide (x7_7.I ≤ (w64 (p0.I - p0.W))))) || (decide (x7_20.I < (1:Int)))) (
    some (2:Int)) <|
  ref18_Validate_l6 p0 (0:Int)

noncomputable def ref07_Next (p0 : (List Int)) (p1 : Int) (p2 : Int) : Option (Int × Int × Int) :=
  cond ((decide (p2 < (1:Int))) || (decide (p1 < (0:Int)))) (
    some ((0:Int), (0:Int), (1:Int))) <|
  Option.bind (gd (!(decide (p1 ≥ (p0.length : Int)))) (idx p0 p1)) fun x3_7 =>
  Option.bind (gd (!((decide (p1 ≥ (p0.length : Int))) || (decide (x3_7 < (0:Int))))) (idx p0 p1)) fun x3_14 =>
  cond (((decide (p1 ≥ (p0.length : Int))) || (decide (x3_7 < (0:Int)))) || (decide (x3_14 ≥ p2))) (
    some ((0:Int), (0:Int), (8:Int))) <|
  Option.bind (idx p0 p1) fun x5_2 =>
  some (x5_2, (w64 (p1 + (1:Int))), (0:Int))

noncomputable def ref18_step_j7 (p0 : api_Chain) (j7_3 : Int) (j7_13 : (List api_Link)) (j7_b0x0_3 : Int) : Option (api_Chain × Int × Int × Int) :=
  some ((api_Chain.mk p0.W p0.Cap (w64 (p0.I + (1:Int))) j7_b0x0_3 j7_13), j7_3, (0:Int), (0:Int))

noncomputable def ref18_step_j4 (p0 : api_Chain) (p1 : Int) (p2 : (List Int)) (j4_3 : Int) (j4_13 : (List api_Link)) (j4_15 : Bool) : Option (api_Chain × Int × Int × Int) :=
  cond j4_15 (
    ck (decide ((j4_13.length + [(api_Link.mk (w64 (p0.I + (1:Int))) p1)].length) * 16 ≤ 140737488355328)) <|
    cond (decide (((j4_13 ++ [(api_Link.mk (w64 (p0.I + (1:Int))) p1)]).length : Int) > p0.Cap)) (
      some ((api_Chain.mk (0:Int) (0:Int) (0:Int) (0:Int) ([] : List api_Link)), (0:Int), (0:Int), (9:Int))) <|
    Option.bind (ref07_Next p2 j4_3 p0.W) fun y24_4 =>
    cond (y24_4.2.2 != (0:Int)) (
      some ((api_Chain.mk (0:Int) (0:Int) (0:Int) (0:Int) ([] : List api_Link)), j4_3, p0.W, y24_4.2.2)) <|
    ref18_step_j7 p0 y24_4.2.1 (j4_13 ++ [(api_Link.mk (w64 (p0.I + (1:Int))) p1)]) (w64 ((w64 ((w64 (p0.I + (1:Int))) + (1:Int))) + y24_4.1))) <|
  ref18_step_j7 p0 j4_3 j4_13 p0.Next

noncomputable def ref18_step (p0 : api_Chain) (p1 : Int) (p2 : (List Int)) (p3 : Int) : Option (api_Chain × Int × Int × Int) :=
  let y1_1 := (ref09_Value p1);
  cond (!y1_1) (
    some ((api_Chain.mk (0:Int) (0:Int) (0:Int) (0:Int) ([] : List api_Link)), (0:Int), (0:Int), (4:Int))) <|
  cond (decide (p3 < (0:Int))) (
    some ((api_Chain.mk (0:Int) (0:Int) (0:Int) (0:Int) ([] : List api_Link)), (0:Int), (0:Int), (1:Int))) <|
  cond (p0.I == (1099511627776:Int)) (
    some ((api_Chain.mk (0:Int) (0:Int) (0:Int) (0:Int) ([] : List api_Link)), (0:Int), (0:Int), (5:Int))) <|
  ck (decide ((([] : List api_Link).length + p0.Links.length) * 16 ≤ 140737488355328)) <|
  Option.bind (gd (decide (((([] : List api_Link) ++ p0.Links).length : Int) > (0:Int))) (idx (([] : List api_Link) ++ p0.Links) (0:Int))) fun x10_5 =>
  Option.bind (gd (decide (((([] : List api_Link) ++ p0.Links).length : Int) > (0:Int))) (idx (([] : List api_Link) ++ p0.Links) (0:Int))) fun x10_7 =>
  cond ((decide (((([] : List api_Link) ++ p0.Links).length : Int) > (0:Int))) && (x10_7.I == (w64 ((w64 (p0.I + (1:Int))) - p0.W)))) (
    ck (decide (0 ≤ (1:Int) ∧ (1:Int) ≤ ((([] : List api_Link) ++ p0.Links).length : Int))) <|
    ref18_step_j4 p0 p1 p2 p3 ((([] : List api_Link) ++ p0.Links).drop ((1:Int)).toNat) ((decide (p0.I > (0:Int))) && (p0.Next == (w64 (p0.I + (1:Int)))))) <|
  Option.bind (ref07_Next p2 p3 (imin (w64 (p0.I + (1:Int))) p0.W)) fun y13_3 =>
  cond (y13_3.2.2 != (0:Int)) (
    some ((api_Chain.mk (0:Int) (0:Int) (0:Int) (0:Int) ([] : List api_Link)), p3, (imin (w64 (p0.I + (1:Int))) p0.W), y13_3.2.2)) <|
  cond (y13_3.1 == (0:Int)) (
    ref18_step_j4 p0 p1 p2 y13_3.2.1 ([] : List api_Link) true) <|
  ref18_step_j4 p0 p1 p2 y13_3.2.1 (([] : List api_Link) ++ p0.Links) ((decide (p0.I > (0:Int))) && (p0.Next == (w64 (p0.I + (1:Int)))))

noncomputable def ref18_Add (p0 : api_Chain) (p1 : Int) (p2 : (List Int)) (p3 : Int) : Option (api_Chain × Int × Int) :=
  Option.bind (ref18_Validate p0) fun y1_1 =>
  cond (y1_1 != (0:Int)) (
    some ((api_Chain.mk (0:Int) (0:Int) (0:Int) (0:Int) ([] : List api_Link)), (0:Int), y1_1)) <|
  Option.bind (ref18_step p0 p1 p2 p3) fun y4_4 =>
  cond (y4_4.2.2.2 != (0:Int)) (
    some ((api_Chain.mk (0:Int) (0:Int) (0:Int) (0:Int) ([] : List api_Link)), (0:Int), y4_4.2.2.2)) <|
  some (y4_4.1, y4_4.2.1, (0:Int))

noncomputable def ref18_Needs (p0 : api_Chain) (p1 : Int) (p2 : (List Int)) (p3 : Int) : Option (Int × Bool) :=
  Option.bind (ref18_Validate p0) fun y1_1 =>
  cond (y1_1 != (0:Int)) (
    some ((0:Int), false)) <|
  Option.bind (ref18_step p0 p1 p2 p3) fun y3_4 =>
  cond ((y3_4.2.2.2 != (8:Int)) || (decide (y3_4.2.1 < (p2.length : Int)))) (
    some ((0:Int), false)) <|
  some (y3_4.2.2.1, true)

noncomputable def ref18_Same_l3s (p0 : api_Chain) (p1 : api_Chain) (v3_44 : Int) : Option (Int ⊕ Bool) :=
  cond (decide (v3_44 < (p0.Links.length : Int))) (
    Option.bind (idx p0.Links v3_44) fun x6_3 =>
    Option.bind (idx p1.Links v3_44) fun x6_8 =>
    cond (!(x6_3.I == x6_8.I && (x6_3.V == x6_8.V && true))) (
      some (.inr false)) <|
    some (.inl (w64 (v3_44 + (1:Int))))) <|
  Option.map Sum.inr (some true)

noncomputable def ref18_Same_l3 (p0 : api_Chain) (p1 : api_Chain) (v3_44 : Int) : Option Bool :=
  loop (fun (s : Int) => ref18_Same_l3s p0 p1 s) v3_44

noncomputable def ref18_Same (p0 : api_Chain) (p1 : api_Chain) : Option Bool :=
  cond (((((p0.W != p1.W) || (p0.Cap != p1.Cap)) || (p0.I != p1.I)) || (p0.Next != p1.Next)) || ((p0.Links.length : Int) != (p1.Links.length : Int))) (
    some false) <|
  ref18_Same_l3 p0 p1 (0:Int)

noncomputable def law18_ChainAdds (p0 : api_Chain) (p1 : Int) (p2 : (List Int)) (p3 : Int) : Option Bool :=
  let y1_1 := (law18_few p0);
  cond (!y1_1) (
    Option.bind law18_awake fun y2_0 =>
    some y2_0) <|
  Option.bind (chain_Add p0 p1 p2 p3) fun y3_4 =>
  Option.bind (ref18_Add p0 p1 p2 p3) fun y4_4 =>
  Option.bind (chain_Needs p0 p1 p2 p3) fun y5_4 =>
  Option.bind (ref18_Needs p0 p1 p2 p3) fun y6_4 =>
  Option.bind (ref18_Same y3_4.1 y4_4.1) fun y7_2 =>
  Option.bind (gd ((((y7_2 && (y3_4.2.1 == y4_4.2.1)) && (y3_4.2.2 == y4_4.2.2)) && (y5_4.1 == y6_4.1)) && (y5_4.2 == y6_4.2)) law18_awake) fun y7_24 =>
  some (((((y7_2 && (y3_4.2.1 == y4_4.2.1)) && (y3_4.2.2 == y4_4.2.2)) && (y5_4.1 == y6_4.1)) && (y5_4.2 == y6_4.2)) && y7_24)

noncomputable def made_Tape_Next (p0 : made_Tape) (p1 : Int) : Option (Int × made_Tape) :=
  cond (decide (p0.At ≥ (p0.L.length : Int))) (
    some ((0:Int), p0)) <|
  Option.bind (idx p0.L (w64 ((w64 (p0.At + (1:Int))) - (1:Int)))) fun x4_9 =>
  Option.bind (made_Mod x4_9 p1) fun y4_12 =>
  some (y4_12, (made_Tape.mk p0.L (w64 (p0.At + (1:Int)))))

noncomputable def law18_supply_l2s (p0 : api_Chain) (p1 : Int) (v2_8 : (List Int)) (v2_b0_0 : (List Int)) (v2_b0_1 : Int) : Option (((List Int) × (List Int) × Int) ⊕ (api_Chain × Int × made_Tape)) :=
  Option.bind (chain_Needs p0 p1 v2_8 (0:Int)) fun y2_3 =>
  cond (((!y2_3.2) || (decide (y2_3.1 < (1:Int)))) || (decide ((v2_8.length : Int) > (4:Int)))) (
    Option.map Sum.inr (Option.bind (chain_Add p0 p1 v2_8 (0:Int)) fun y5_3 =>
    some (y5_3.1, y5_3.2.2, (made_Tape.mk v2_b0_0 v2_b0_1)))) <|
  Option.bind (made_Tape_Next (made_Tape.mk v2_b0_0 v2_b0_1) y2_3.1) fun y4_3 =>
  ck (decide ((v2_8.length + [y4_3.1].length) * 8 ≤ 140737488355328)) <|
  some (.inl ((v2_8 ++ [y4_3.1]), y4_3.2.L, y4_3.2.At))

noncomputable def law18_supply_l2 (p0 : api_Chain) (p1 : Int) (v2_8 : (List Int)) (v2_b0_0 : (List Int)) (v2_b0_1 : Int) : Option (api_Chain × Int × made_Tape) :=
  loop (fun (s : ((List Int) × (List Int) × Int)) => law18_supply_l2s p0 p1 s.1 s.2.1 s.2.2) (v2_8, v2_b0_0, v2_b0_1)

noncomputable def law18_supply (p0 : api_Chain) (p1 : Int) (p2 : made_Tape) : Option (api_Chain × Int × made_Tape) :=
  law18_supply_l2 p0 p1 ([] : List Int) p2.L p2.At

noncomputable def made_New (p0 : (List Int)) : made_Tape :=
  (made_Tape.mk p0 (0:Int))

noncomputable def law18_ChainLive_l2s (p0 : (List Int)) (y1_1 : Int) (y2_1 : (api_Chain × Int)) (v2_10 : Int) (v2_b2x5_0 : Int) (v2_b2x5_1 : Int) (v2_b2x5_2 : Int) (v2_b2x5_3 : Int) (v2_b2x5_4 : (List api_Link)) (v2_b3x1_0 : (List Int)) (v2_b3x1_1 : Int) : Option ((Int × Int × Int × Int × Int × (List api_Link) × (List Int) × Int) ⊕ Bool) :=
  cond ((decide (v2_10 < (p0.length : Int))) && (decide (v2_10 < (60:Int)))) (
    Option.bind (idx p0 v2_10) fun x7_2 =>
    Option.bind (made_Value x7_2) fun y7_4 =>
    Option.bind (law18_supply (api_Chain.mk v2_b2x5_0 v2_b2x5_1 v2_b2x5_2 v2_b2x5_3 v2_b2x5_4) y7_4 (made_Tape.mk v2_b3x1_0 v2_b3x1_1)) fun y8_3 =>
    cond (y8_3.2.1 == (9:Int)) (
      Option.bind law18_awake fun y10_0 =>
      some (.inr y10_0)) <|
    Option.bind (chain_Ask y8_3.1) fun y11_1 =>
    Option.bind (gd (!(((((y2_1.2 != (0:Int)) || (y8_3.2.1 != (0:Int))) || (y11_1.2 != (0:Int))) || (y8_3.1.I != (w64 (v2_10 + (1:Int))))) || ((y8_3.1.Links.length : Int) == (0:Int)))) (chain_Validate y8_3.1)) fun y12_25 =>
    cond ((((((y2_1.2 != (0:Int)) || (y8_3.2.1 != (0:Int))) || (y11_1.2 != (0:Int))) || (y8_3.1.I != (w64 (v2_10 + (1:Int))))) || ((y8_3.1.Links.length : Int) == (0:Int))) || (y12_25 != (0:Int))) (
      some (.inr false)) <|
    Option.bind (idx y8_3.1.Links (0:Int)) fun x14_2 =>
    Option.bind (gd (!(((decide (x14_2.I < (1:Int))) || (decide (x14_2.I ≤ (w64 (y8_3.1.I - (w64 ((1:Int) + y1_1))))))) || (decide (x14_2.I > y8_3.1.I)))) (idx p0 (w64 (x14_2.I - (1:Int))))) fun x15_20 =>
    Option.bind (gd (!(((decide (x14_2.I < (1:Int))) || (decide (x14_2.I ≤ (w64 (y8_3.1.I - (w64 ((1:Int) + y1_1))))))) || (decide (x14_2.I > y8_3.1.I)))) (made_Value x15_20)) fun y15_22 =>
    cond ((((decide (x14_2.I < (1:Int))) || (decide (x14_2.I ≤ (w64 (y8_3.1.I - (w64 ((1:Int) + y1_1))))))) || (decide (x14_2.I > y8_3.1.I))) || (y15_22 != y11_1.1)) (
      some (.inr false)) <|
    some (.inl ((w64 (v2_10 + (1:Int))), y8_3.1.W, y8_3.1.Cap, y8_3.1.I, y8_3.1.Next, y8_3.1.Links, y8_3.2.2.L, y8_3.2.2.At))) <|
  Option.map Sum.inr (Option.bind law18_awake fun y18_0 =>
  some y18_0)

noncomputable def law18_ChainLive_l2 (p0 : (List Int)) (y1_1 : Int) (y2_1 : (api_Chain × Int)) (v2_10 : Int) (v2_b2x5_0 : Int) (v2_b2x5_1 : Int) (v2_b2x5_2 : Int) (v2_b2x5_3 : Int) (v2_b2x5_4 : (List api_Link)) (v2_b3x1_0 : (List Int)) (v2_b3x1_1 : Int) : Option Bool :=
  loop (fun (s : (Int × Int × Int × Int × Int × (List api_Link) × (List Int) × Int)) => law18_ChainLive_l2s p0 y1_1 y2_1 s.1 s.2.1 s.2.2.1 s.2.2.2.1 s.2.2.2.2.1 s.2.2.2.2.2.1 s.2.2.2.2.2.2.1 s.2.2.2.2.2.2.2) (v2_10, v2_b2x5_0, v2_b2x5_1, v2_b2x5_2, v2_b2x5_3, v2_b2x5_4, v2_b3x1_0, v2_b3x1_1)

noncomputable def law18_ChainLive (p0 : (List Int)) (p1 : (List Int)) (p2 : Int) : Option Bool :=
  Option.bind (made_Mod p2 (12:Int)) fun y1_1 =>
  let y2_1 := (chain_New (w64 ((1:Int) + y1_1)) (64:Int));
  let y3_1 := (made_New p1);
  law18_ChainLive_l2 p0 y1_1 y2_1 (0:Int) y2_1.1.W y2_1.1.Cap y2_1.1.I y2_1.1.Next y2_1.1.Links y3_1.L y3_1.At

noncomputable def ref18_New (p0 : Int) (p1 : Int) : (api_Chain × Int) :=
  let y1_1 := (ref06_Window p0);
  cond (((!y1_1) || (decide (p1 < (1:Int)))) || (decide (p1 > (64:Int)))) (
    ((api_Chain.mk (0:Int) (0:Int) (0:Int) (0:Int) ([] : List api_Link)), (1:Int))) <|
  ((api_Chain.mk p0 p1 (0:Int) (0:Int) ([] : List api_Link)), (0:Int))

noncomputable def law18_ChainNew (p0 : Int) (p1 : Int) : Option Bool :=
  let y1_2 := (chain_New p0 p1);
  let y2_2 := (ref18_New p0 p1);
  Option.bind (ref18_Same y1_2.1 y2_2.1) fun y3_2 =>
  Option.bind (gd (y3_2 && (y1_2.2 == y2_2.2)) law18_awake) fun y3_9 =>
  some ((y3_2 && (y1_2.2 == y2_2.2)) && y3_9)

noncomputable def ref18_Ask (p0 : api_Chain) : Option (Int × Int) :=
  Option.bind (ref18_Validate p0) fun y1_1 =>
  cond (y1_1 != (0:Int)) (
    some ((0:Int), y1_1)) <|
  cond ((p0.Links.length : Int) == (0:Int)) (
    some ((0:Int), (7:Int))) <|
  Option.bind (idx p0.Links (0:Int)) fun x6_2 =>
  some (x6_2.V, (0:Int))

noncomputable def law18_ChainStates (p0 : api_Chain) : Option Bool :=
  let y1_1 := (law18_few p0);
  cond (!y1_1) (
    Option.bind law18_awake fun y2_0 =>
    some y2_0) <|
  Option.bind (chain_Ask p0) fun y3_1 =>
  Option.bind (ref18_Ask p0) fun y4_1 =>
  Option.bind (chain_Validate p0) fun y5_1 =>
  Option.bind (ref18_Validate p0) fun y5_3 =>
  Option.bind (gd (((y5_1 == y5_3) && (y3_1.1 == y4_1.1)) && (y3_1.2 == y4_1.2)) law18_awake) fun y5_16 =>
  some ((((y5_1 == y5_3) && (y3_1.1 == y4_1.1)) && (y3_1.2 == y4_1.2)) && y5_16)

noncomputable def law18_ChainWastes (p0 : api_Chain) (p1 : Int) (p2 : (List Int)) (p3 : (List Int)) : Option Bool :=
  let y1_1 := (law18_few p0);
  cond (!y1_1) (
    Option.bind law18_awake fun y2_0 =>
    some y2_0) <|
  Option.bind (chain_Add p0 p1 p2 (0:Int)) fun y3_3 =>
  ck (decide ((([] : List Int).length + p2.length) * 8 ≤ 140737488355328)) <|
  ck (decide (((([] : List Int) ++ p2).length + p3.length) * 8 ≤ 140737488355328)) <|
  Option.bind (chain_Add p0 p1 ((([] : List Int) ++ p2) ++ p3) (0:Int)) fun y4_7 =>
  Option.bind (gd ((!(y3_3.2.2 != (0:Int))) && ((y4_7.2.2 == (0:Int)) && (y3_3.2.1 == y4_7.2.1))) (ref18_Same y3_3.1 y4_7.1)) fun y5_13 =>
  Option.bind (gd ((y3_3.2.2 != (0:Int)) || (((y4_7.2.2 == (0:Int)) && (y3_3.2.1 == y4_7.2.1)) && y5_13)) law18_awake) fun y5_17 =>
  some (((y3_3.2.2 != (0:Int)) || (((y4_7.2.2 == (0:Int)) && (y3_3.2.1 == y4_7.2.1)) && y5_13)) && y5_17)

noncomputable def ref09_SameNumbers_l3s (p0 : (List Int)) (p1 : (List Int)) (v3_13 : Int) : Option (Int ⊕ Bool) :=
  cond (decide (v3_13 < (p0.length : Int))) (
    Option.bind (idx p0 v3_13) fun x6_2 =>
    Option.bind (idx p1 v3_13) fun x6_6 =>
    cond (x6_2 != x6_6) (
      some (.inr false)) <|
    some (.inl (w64 (v3_13 + (1:Int))))) <|
  Option.map Sum.inr (some true)

noncomputable def ref09_SameNumbers_l3 (p0 : (List Int)) (p1 : (List Int)) (v3_13 : Int) : Option Bool :=
  loop (fun (s : Int) => ref09_SameNumbers_l3s p0 p1 s) v3_13

noncomputable def ref09_SameNumbers (p0 : (List Int)) (p1 : (List Int)) : Option Bool :=
  cond ((p0.length : Int) != (p1.length : Int)) (
    some false) <|
  ref09_SameNumbers_l3 p0 p1 (0:Int)

noncomputable def sample_Validate_l3s (p0 : api_Sample) (v3_19 : Int) : Option (Int ⊕ Int) :=
  cond (decide (v3_19 < (p0.Chains.length : Int))) (
    Option.bind (idx p0.Chains v3_19) fun x5_0 =>
    Option.bind (idx p0.Chains (0:Int)) fun x6_2 =>
    Option.bind (chain_Validate x5_0) fun y7_1 =>
    cond ((((y7_1 != (0:Int)) || (x5_0.W != x6_2.W)) || (x5_0.Cap != x6_2.Cap)) || (x5_0.I != x6_2.I)) (
      some (.inr (2:Int))) <|
    some (.inl (w64 (v3_19 + (1:Int))))) <|
  Option.map Sum.inr (some (0:Int))

noncomputable def sample_Validate_l3 (p0 : api_Sample) (v3_19 : Int) : Option Int :=
  loop (fun (s : Int) => sample_Validate_l3s p0 s) v3_19

noncomputable def sample_Validate (p0 : api_Sample) : Option Int :=
  cond ((decide ((p0.Chains.length : Int) < (1:Int))) || (decide ((p0.Chains.length : Int) > (16:Int)))) (
    some (2:Int)) <|
  sample_Validate_l3 p0 (0:Int)

noncomputable def sample_Add_l3s (p0 : api_Sample) (p1 : Int) (p2 : (List Int)) (v3_10 : Int) (v3_25 : Int) (v3_b4x0_0 : (List api_Chain)) : Option ((Int × Int × (List api_Chain)) ⊕ (api_Sample × Int)) :=
  cond (decide (v3_25 < (p0.Chains.length : Int))) (
    Option.bind (idx p0.Chains v3_25) fun x8_0 =>
    Option.bind (chain_Add x8_0 p1 p2 v3_10) fun y9_4 =>
    cond (y9_4.2.2 != (0:Int)) (
      some (.inr ((api_Sample.mk ([] : List api_Chain)), y9_4.2.2))) <|
    ck (decide ((v3_b4x0_0.length + [y9_4.1].length) * 56 ≤ 140737488355328)) <|
    some (.inl (y9_4.2.1, (w64 (v3_25 + (1:Int))), (v3_b4x0_0 ++ [y9_4.1])))) <|
  Option.map Sum.inr (cond (decide (v3_10 < (p2.length : Int))) (
    some ((api_Sample.mk ([] : List api_Chain)), (8:Int))) <|
  some ((api_Sample.mk v3_b4x0_0), (0:Int)))

noncomputable def sample_Add_l3 (p0 : api_Sample) (p1 : Int) (p2 : (List Int)) (v3_10 : Int) (v3_25 : Int) (v3_b4x0_0 : (List api_Chain)) : Option (api_Sample × Int) :=
  loop (fun (s : (Int × Int × (List api_Chain))) => sample_Add_l3s p0 p1 p2 s.1 s.2.1 s.2.2) (v3_10, v3_25, v3_b4x0_0)

noncomputable def sample_Add (p0 : api_Sample) (p1 : Int) (p2 : (List Int)) : Option (api_Sample × Int) :=
  Option.bind (sample_Validate p0) fun y1_1 =>
  cond (y1_1 != (0:Int)) (
    some ((api_Sample.mk ([] : List api_Chain)), y1_1)) <|
  sample_Add_l3 p0 p1 p2 (0:Int) (0:Int) ([] : List api_Chain)

noncomputable def sample_Ask_l3s (p0 : api_Sample) (v3_5 : (List Int)) (v3_18 : Int) : Option (((List Int) × Int) ⊕ ((List Int) × Int)) :=
  cond (decide (v3_18 < (p0.Chains.length : Int))) (
    Option.bind (idx p0.Chains v3_18) fun x7_0 =>
    Option.bind (chain_Ask x7_0) fun y8_1 =>
    cond (y8_1.2 != (0:Int)) (
      some (.inr (([] : List Int), y8_1.2))) <|
    ck (decide ((v3_5.length + [y8_1.1].length) * 8 ≤ 140737488355328)) <|
    some (.inl ((v3_5 ++ [y8_1.1]), (w64 (v3_18 + (1:Int)))))) <|
  Option.map Sum.inr (some (v3_5, (0:Int)))

noncomputable def sample_Ask_l3 (p0 : api_Sample) (v3_5 : (List Int)) (v3_18 : Int) : Option ((List Int) × Int) :=
  loop (fun (s : ((List Int) × Int)) => sample_Ask_l3s p0 s.1 s.2) (v3_5, v3_18)

noncomputable def sample_Ask (p0 : api_Sample) : Option ((List Int) × Int) :=
  Option.bind (sample_Validate p0) fun y1_1 =>
  cond (y1_1 != (0:Int)) (
    some (([] : List Int), y1_1)) <|
  sample_Ask_l3 p0 ([] : List Int) (0:Int)

noncomputable def sample_New_l3s (p0 : Int) (p1 : Int) (p2 : Int) (v3_19 : Int) (v3_b3x0_0 : (List api_Chain)) : Option ((Int × (List api_Chain)) ⊕ (api_Sample × Int)) :=
  cond (decide (v3_19 < p0)) (
    let y6_2 := (chain_New p1 p2);
    cond (y6_2.2 != (0:Int)) (
      some (.inr ((api_Sample.mk ([] : List api_Chain)), y6_2.2))) <|
    ck (decide ((v3_b3x0_0.length + [y6_2.1].length) * 56 ≤ 140737488355328)) <|
    some (.inl ((w64 (v3_19 + (1:Int))), (v3_b3x0_0 ++ [y6_2.1])))) <|
  Option.map Sum.inr (some ((api_Sample.mk v3_b3x0_0), (0:Int)))

noncomputable def sample_New_l3 (p0 : Int) (p1 : Int) (p2 : Int) (v3_19 : Int) (v3_b3x0_0 : (List api_Chain)) : Option (api_Sample × Int) :=
  loop (fun (s : (Int × (List api_Chain))) => sample_New_l3s p0 p1 p2 s.1 s.2) (v3_19, v3_b3x0_0)

noncomputable def sample_New (p0 : Int) (p1 : Int) (p2 : Int) : Option (api_Sample × Int) :=
  cond ((decide (p0 < (1:Int))) || (decide (p0 > (16:Int)))) (
    some ((api_Sample.mk ([] : List api_Chain)), (1:Int))) <|
  sample_New_l3 p0 p1 p2 (0:Int) ([] : List api_Chain)

noncomputable def law19_awake : Option Bool :=
  Option.bind (sample_New (2:Int) (1:Int) (3:Int)) fun y1_0 =>
  Option.bind (sample_Add y1_0.1 (7:Int) [(0:Int), (0:Int), (0:Int), (0:Int)]) fun y2_2 =>
  Option.bind (sample_Ask y2_2.1) fun y3_1 =>
  Option.bind (gd (((y1_0.2 == (0:Int)) && (y2_2.2 == (0:Int))) && (y3_1.2 == (0:Int))) (ref09_SameNumbers y3_1.1 [(7:Int), (7:Int)])) fun y4_13 =>
  some ((((y1_0.2 == (0:Int)) && (y2_2.2 == (0:Int))) && (y3_1.2 == (0:Int))) && y4_13)

noncomputable def law19_few_l2s (p0 : api_Sample) (v2_8 : Int) : Option (Int ⊕ Bool) :=
  cond (decide (v2_8 < (p0.Chains.length : Int))) (
    Option.bind (idx p0.Chains v2_8) fun x3_0 =>
    cond (decide ((x3_0.Links.length : Int) > (100:Int))) (
      some (.inr false)) <|
    some (.inl (w64 (v2_8 + (1:Int))))) <|
  Option.map Sum.inr (some (decide ((p0.Chains.length : Int) ≤ (30:Int))))

noncomputable def law19_few_l2 (p0 : api_Sample) (v2_8 : Int) : Option Bool :=
  loop (fun (s : Int) => law19_few_l2s p0 s) v2_8

noncomputable def law19_few (p0 : api_Sample) : Option Bool :=
  law19_few_l2 p0 (0:Int)

noncomputable def ref19_Validate_l3s (p0 : api_Sample) (v3_19 : Int) : Option (Int ⊕ Int) :=
  cond (decide (v3_19 < (p0.Chains.length : Int))) (
    Option.bind (idx p0.Chains v3_19) fun x5_0 =>
    Option.bind (idx p0.Chains (0:Int)) fun x6_2 =>
    Option.bind (ref18_Validate x5_0) fun y7_1 =>
    cond ((((y7_1 != (0:Int)) || (x5_0.W != x6_2.W)) || (x5_0.Cap != x6_2.Cap)) || (x5_0.I != x6_2.I)) (
      some (.inr (2:Int))) <|
    some (.inl (w64 (v3_19 + (1:Int))))) <|
  Option.map Sum.inr (some (0:Int))

noncomputable def ref19_Validate_l3 (p0 : api_Sample) (v3_19 : Int) : Option Int :=
  loop (fun (s : Int) => ref19_Validate_l3s p0 s) v3_19

noncomputable def ref19_Validate (p0 : api_Sample) : Option Int :=
  cond ((decide ((p0.Chains.length : Int) < (1:Int))) || (decide ((p0.Chains.length : Int) > (16:Int)))) (
    some (2:Int)) <|
  ref19_Validate_l3 p0 (0:Int)

noncomputable def ref19_Add_l4s (p0 : api_Sample) (p1 : Int) (p2 : (List Int)) (v4_10 : Int) (v4_29 : Int) (v4_b6x0_0 : (List api_Chain)) : Option ((Int × Int × (List api_Chain)) ⊕ (api_Sample × Int)) :=
  cond (decide (v4_29 < (p0.Chains.length : Int))) (
    Option.bind (idx p0.Chains v4_29) fun x10_0 =>
    Option.bind (ref18_Add x10_0 p1 p2 v4_10) fun y11_4 =>
    cond (y11_4.2.2 != (0:Int)) (
      some (.inr ((api_Sample.mk ([] : List api_Chain)), y11_4.2.2))) <|
    ck (decide ((v4_b6x0_0.length + [y11_4.1].length) * 56 ≤ 140737488355328)) <|
    some (.inl (y11_4.2.1, (w64 (v4_29 + (1:Int))), (v4_b6x0_0 ++ [y11_4.1])))) <|
  Option.map Sum.inr (cond (decide (v4_10 < (p2.length : Int))) (
    some ((api_Sample.mk ([] : List api_Chain)), (8:Int))) <|
  some ((api_Sample.mk v4_b6x0_0), (0:Int)))

noncomputable def ref19_Add_l4 (p0 : api_Sample) (p1 : Int) (p2 : (List Int)) (v4_10 : Int) (v4_29 : Int) (v4_b6x0_0 : (List api_Chain)) : Option (api_Sample × Int) :=
  loop (fun (s : (Int × Int × (List api_Chain))) => ref19_Add_l4s p0 p1 p2 s.1 s.2.1 s.2.2) (v4_10, v4_29, v4_b6x0_0)

noncomputable def ref19_Add (p0 : api_Sample) (p1 : Int) (p2 : (List Int)) : Option (api_Sample × Int) :=
  Option.bind (ref19_Validate p0) fun y1_1 =>
  cond (y1_1 != (0:Int)) (
    some ((api_Sample.mk ([] : List api_Chain)), y1_1)) <|
  let y4_1 := (ref09_Value p1);
  cond (!y4_1) (
    some ((api_Sample.mk ([] : List api_Chain)), (4:Int))) <|
  ref19_Add_l4 p0 p1 p2 (0:Int) (0:Int) ([] : List api_Chain)

noncomputable def ref19_Needs_l3s (p0 : api_Sample) (p1 : Int) (p2 : (List Int)) (v3_8 : Int) (v3_27 : Int) : Option ((Int × Int) ⊕ (Int × Bool)) :=
  cond (decide (v3_27 < (p0.Chains.length : Int))) (
    Option.bind (idx p0.Chains v3_27) fun x6_0 =>
    Option.bind (ref18_Needs x6_0 p1 p2 v3_8) fun y7_4 =>
    cond y7_4.2 (
      some (.inr (y7_4.1, true))) <|
    Option.bind (ref18_Add x6_0 p1 p2 v3_8) fun y10_4 =>
    cond (y10_4.2.2 != (0:Int)) (
      some (.inr ((0:Int), false))) <|
    some (.inl (y10_4.2.1, (w64 (v3_27 + (1:Int)))))) <|
  Option.map Sum.inr (some ((0:Int), false))

noncomputable def ref19_Needs_l3 (p0 : api_Sample) (p1 : Int) (p2 : (List Int)) (v3_8 : Int) (v3_27 : Int) : Option (Int × Bool) :=
  loop (fun (s : (Int × Int)) => ref19_Needs_l3s p0 p1 p2 s.1 s.2) (v3_8, v3_27)

noncomputable def ref19_Needs (p0 : api_Sample) (p1 : Int) (p2 : (List Int)) : Option (Int × Bool) :=
  Option.bind (ref19_Validate p0) fun y1_1 =>
  let y1_5 := (ref09_Value p1);
  cond ((y1_1 != (0:Int)) || (!y1_5)) (
    some ((0:Int), false)) <|
  ref19_Needs_l3 p0 p1 p2 (0:Int) (0:Int)

noncomputable def ref19_Same_l3s (p0 : api_Sample) (p1 : api_Sample) (v3_16 : Int) : Option (Int ⊕ Bool) :=
  cond (decide (v3_16 < (p0.Chains.length : Int))) (
    Option.bind (idx p0.Chains v3_16) fun x6_3 =>
    Option.bind (idx p1.Chains v3_16) fun x6_8 =>
    Option.bind (ref18_Same x6_3 x6_8) fun y6_10 =>
    cond (!y6_10) (
      some (.inr false)) <|
    some (.inl (w64 (v3_16 + (1:Int))))) <|
  Option.map Sum.inr (some true)

noncomputable def ref19_Same_l3 (p0 : api_Sample) (p1 : api_Sample) (v3_16 : Int) : Option Bool :=
  loop (fun (s : Int) => ref19_Same_l3s p0 p1 s) v3_16

noncomputable def ref19_Same (p0 : api_Sample) (p1 : api_Sample) : Option Bool :=
  cond ((p0.Chains.length : Int) != (p1.Chains.length : Int)) (
    some false) <|
  ref19_Same_l3 p0 p1 (0:Int)

noncomputable def sample_Needs_l3s (p0 : api_Sample) (p1 : Int) (p2 : (List Int)) (v3_8 : Int) (v3_22 : Int) : Option ((Int × Int) ⊕ (Int × Bool)) :=
  cond (decide (v3_22 < (p0.Chains.length : Int))) (
    Option.bind (idx p0.Chains v3_22) fun x6_0 =>
    Option.bind (chain_Needs x6_0 p1 p2 v3_8) fun y7_4 =>
    cond y7_4.2 (
      some (.inr (y7_4.1, true))) <|
    Option.bind (chain_Add x6_0 p1 p2 v3_8) fun y10_4 =>
    cond (y10_4.2.2 != (0:Int)) (
      some (.inr ((0:Int), false))) <|
    some (.inl (y10_4.2.1, (w64 (v3_22 + (1:Int)))))) <|
  Option.map Sum.inr (some ((0:Int), false))

noncomputable def sample_Needs_l3 (p0 : api_Sample) (p1 : Int) (p2 : (List Int)) (v3_8 : Int) (v3_22 : Int) : Option (Int × Bool) :=
  loop (fun (s : (Int × Int)) => sample_Needs_l3s p0 p1 p2 s.1 s.2) (v3_8, v3_22)

noncomputable def sample_Needs (p0 : api_Sample) (p1 : Int) (p2 : (List Int)) : Option (Int × Bool) :=
  Option.bind (sample_Validate p0) fun y1_1 =>
  cond (y1_1 != (0:Int)) (
    some ((0:Int), false)) <|
  sample_Needs_l3 p0 p1 p2 (0:Int) (0:Int)

noncomputable def law19_SampleAdds (p0 : api_Sample) (p1 : Int) (p2 : (List Int)) : Option Bool :=
  Option.bind (law19_few p0) fun y1_1 =>
  cond (!y1_1) (
    Option.bind law19_awake fun y2_0 =>
    some y2_0) <|
  Option.bind (sample_Add p0 p1 p2) fun y3_3 =>
  Option.bind (ref19_Add p0 p1 p2) fun y4_3 =>
  Option.bind (sample_Needs p0 p1 p2) fun y5_3 =>
  Option.bind (ref19_Needs p0 p1 p2) fun y6_3 =>
  Option.bind (ref19_Same y3_3.1 y4_3.1) fun y7_2 =>
  Option.bind (gd (((y7_2 && (y3_3.2 == y4_3.2)) && (y5_3.1 == y6_3.1)) && (y5_3.2 == y6_3.2)) law19_awake) fun y7_19 =>
  some ((((y7_2 && (y3_3.2 == y4_3.2)) && (y5_3.1 == y6_3.1)) && (y5_3.2 == y6_3.2)) && y7_19)

noncomputable def law19_SampleChains_l17s (y15_4 : Int) (y21_3 : (api_Sample × Int)) (v7_11 : (List api_Chain)) (v7_16 : Int) (j10_18 : (List Int)) (j10_b11x1_0 : (List Int)) (j10_b11x1_1 : Int) (v17_11 : (List api_Chain)) (v17_21 : Int) (v17_105 : Int) : Option (((List api_Chain) × Int × Int) ⊕ ((Int × (List api_Chain) × Int × (List api_Chain) × (List Int) × Int) ⊕ Bool)) :=
  cond (decide (v17_105 < (v7_11.length : Int))) (
    Option.bind (idx v17_11 v17_105) fun x28_2 =>
    Option.bind (idx v17_11 v17_105) fun x28_3 =>
    Option.bind (chain_Add x28_3 y15_4 j10_18 v17_21) fun y28_7 =>
    cond (y28_7.2.2 != (0:Int)) (
      some (.inr (.inr false))) <|
    Option.bind (idx v17_11 v17_105) fun x31_4 =>
    Option.bind (idx v17_11 v17_105) fun x31_5 =>
    some (.inl ((v17_11.set (v17_105).toNat y28_7.1), y28_7.2.1, (w64 (v17_105 + (1:Int)))))) <|
  Option.map Sum.inr (Option.bind (gd (!((y21_3.2 != (0:Int)) || (v17_21 != (j10_18.length : Int)))) (ref19_Same y21_3.1 (api_Sample.mk v17_11))) fun y33_12 =>
  cond (((y21_3.2 != (0:Int)) || (v17_21 != (j10_18.length : Int))) || (!y33_12)) (
    some (.inr false)) <|
  some (.inl (y21_3.2, v17_11, (w64 (v7_16 + (1:Int))), y21_3.1.Chains, j10_b11x1_0, j10_b11x1_1)))

noncomputable def law19_SampleChains_l17 (y15_4 : Int) (y21_3 : (api_Sample × Int)) (v7_11 : (List api_Chain)) (v7_16 : Int) (j10_18 : (List Int)) (j10_b11x1_0 : (List Int)) (j10_b11x1_1 : Int) (v17_11 : (List api_Chain)) (v17_21 : Int) (v17_105 : Int) : Option ((Int × (List api_Chain) × Int × (List api_Chain) × (List Int) × Int) ⊕ Bool) :=
  loop (fun (s : ((List api_Chain) × Int × Int)) => law19_SampleChains_l17s y15_4 y21_3 v7_11 v7_16 j10_18 j10_b11x1_0 j10_b11x1_1 s.1 s.2.1 s.2.2) (v17_11, v17_21, v17_105)

noncomputable def law19_SampleChains_j10 (y15_4 : Int) (v7_11 : (List api_Chain)) (v7_16 : Int) (v7_b2x6_0 : (List api_Chain)) (j10_18 : (List Int)) (j10_b11x1_0 : (List Int)) (j10_b11x1_1 : Int) : Option ((Int × (List api_Chain) × Int × (List api_Chain) × (List Int) × Int) ⊕ Bool) :=
  Option.bind (sample_Add (api_Sample.mk v7_b2x6_0) y15_4 j10_18) fun y21_3 =>
  cond (y21_3.2 == (9:Int)) (
    Option.bind law19_awake fun y23_0 =>
    some (.inr y23_0)) <|
  law19_SampleChains_l17 y15_4 y21_3 v7_11 v7_16 j10_18 j10_b11x1_0 j10_b11x1_1 v7_11 (0:Int) (0:Int)

noncomputable def law19_SampleChains_l11s (y15_4 : Int) (v7_11 : (List api_Chain)) (v7_16 : Int) (v7_b2x6_0 : (List api_Chain)) (v11_18 : (List Int)) (v11_b11x1_0 : (List Int)) (v11_b11x1_1 : Int) : Option (((List Int) × (List Int) × Int) ⊕ ((Int × (List api_Chain) × Int × (List api_Chain) × (List Int) × Int) ⊕ Bool)) :=
  cond (decide ((v11_18.length : Int) < (40:Int))) (
    Option.bind (sample_Needs (api_Sample.mk v7_b2x6_0) y15_4 v11_18) fun y18_3 =>
    cond ((!y18_3.2) || (decide (y18_3.1 < (1:Int)))) (
      Option.map Sum.inr (law19_SampleChains_j10 y15_4 v7_11 v7_16 v7_b2x6_0 v11_18 v11_b11x1_0 v11_b11x1_1)) <|
    Option.bind (made_Tape_Next (made_Tape.mk v11_b11x1_0 v11_b11x1_1) y18_3.1) fun y20_3 =>
    ck (decide ((v11_18.length + [y20_3.1].length) * 8 ≤ 140737488355328)) <|
    some (.inl ((v11_18 ++ [y20_3.1]), y20_3.2.L, y20_3.2.At))) <|
  Option.map Sum.inr (law19_SampleChains_j10 y15_4 v7_11 v7_16 v7_b2x6_0 v11_18 v11_b11x1_0 v11_b11x1_1)

noncomputable def law19_SampleChains_l11 (y15_4 : Int) (v7_11 : (List api_Chain)) (v7_16 : Int) (v7_b2x6_0 : (List api_Chain)) (v11_18 : (List Int)) (v11_b11x1_0 : (List Int)) (v11_b11x1_1 : Int) : Option ((Int × (List api_Chain) × Int × (List api_Chain) × (List Int) × Int) ⊕ Bool) :=
  loop (fun (s : ((List Int) × (List Int) × Int)) => law19_SampleChains_l11s y15_4 v7_11 v7_16 v7_b2x6_0 s.1 s.2.1 s.2.2) (v11_18, v11_b11x1_0, v11_b11x1_1)

noncomputable def law19_SampleChains_l7s (p0 : (List Int)) (v7_10 : Int) (v7_11 : (List api_Chain)) (v7_16 : Int) (v7_b2x6_0 : (List api_Chain)) (v7_b11x1_0 : (List Int)) (v7_b11x1_1 : Int) : Option ((Int × (List api_Chain) × Int × (List api_Chain) × (List Int) × Int) ⊕ Bool) :=
  cond ((decide (v7_16 < (p0.length : Int))) && (decide (v7_16 < (20:Int)))) (
    Option.bind (idx p0 v7_16) fun x15_2 =>
    Option.bind (made_Value x15_2) fun y15_4 =>
    law19_SampleChains_l11 y15_4 v7_11 v7_16 v7_b2x6_0 ([] : List Int) v7_b11x1_0 v7_b11x1_1) <|
  Option.map Sum.inr (Option.bind (gd (v7_10 == (0:Int)) law19_awake) fun y35_3 =>
  some ((v7_10 == (0:Int)) && y35_3))

noncomputable def law19_SampleChains_l7 (p0 : (List Int)) (v7_10 : Int) (v7_11 : (List api_Chain)) (v7_16 : Int) (v7_b2x6_0 : (List api_Chain)) (v7_b11x1_0 : (List Int)) (v7_b11x1_1 : Int) : Option Bool :=
  loop (fun (s : (Int × (List api_Chain) × Int × (List api_Chain) × (List Int) × Int)) => law19_SampleChains_l7s p0 s.1 s.2.1 s.2.2.1 s.2.2.2.1 s.2.2.2.2.1 s.2.2.2.2.2) (v7_10, v7_11, v7_16, v7_b2x6_0, v7_b11x1_0, v7_b11x1_1)

noncomputable def law19_SampleChains_l2s (p0 : (List Int)) (p1 : (List Int)) (y1_1 : Int) (y1_4 : Int) (y2_2 : (api_Sample × Int)) (v2_11 : (List api_Chain)) (v2_12 : Int) : Option (((List api_Chain) × Int) ⊕ Bool) :=
  cond (decide (v2_12 < (w64 ((1:Int) + y1_1)))) (
    let y7_1 := (ref18_New (w64 ((1:Int) + y1_4)) (64:Int));
    cond (y7_1.2 != (0:Int)) (
      some (.inr false)) <|
    ck (decide ((v2_11.length + [y7_1.1].length) * 56 ≤ 140737488355328)) <|
    some (.inl ((v2_11 ++ [y7_1.1]), (w64 (v2_12 + (1:Int)))))) <|
  Option.map Sum.inr (let y11_1 := (made_New p1);
  law19_SampleChains_l7 p0 y2_2.2 v2_11 (0:Int) y2_2.1.Chains y11_1.L y11_1.At)

noncomputable def law19_SampleChains_l2 (p0 : (List Int)) (p1 : (List Int)) (y1_1 : Int) (y1_4 : Int) (y2_2 : (api_Sample × Int)) (v2_11 : (List api_Chain)) (v2_12 : Int) : Option Bool :=
  loop (fun (s : ((List api_Chain) × Int)) => law19_SampleChains_l2s p0 p1 y1_1 y1_4 y2_2 s.1 s.2) (v2_11, v2_12)

noncomputable def law19_SampleChains (p0 : (List Int)) (p1 : (List Int)) (p2 : Int) (p3 : Int) : Option Bool :=
  Option.bind (made_Int p2 (4:Int)) fun y1_1 =>
  Option.bind (made_Mod p3 (6:Int)) fun y1_4 =>
  Option.bind (sample_New (w64 ((1:Int) + y1_1)) (w64 ((1:Int) + y1_4)) (64:Int)) fun y2_2 =>
  law19_SampleChains_l2 p0 p1 y1_1 y1_4 y2_2 ([] : List api_Chain) (0:Int)

noncomputable def ref19_New_l3s (p1 : Int) (p2 : Int) (v3_0 : Int) (v3_b3x0_0 : (List api_Chain)) : Option ((Int × (List api_Chain)) ⊕ (api_Sample × Int)) :=
  cond (decide (v3_0 > (0:Int))) (
    let y6_2 := (ref18_New p1 p2);
    cond (y6_2.2 != (0:Int)) (
      some (.inr ((api_Sample.mk ([] : List api_Chain)), y6_2.2))) <|
    ck (decide ((v3_b3x0_0.length + [y6_2.1].length) * 56 ≤ 140737488355328)) <|
    some (.inl ((w64 (v3_0 - (1:Int))), (v3_b3x0_0 ++ [y6_2.1])))) <|
  Option.map Sum.inr (some ((api_Sample.mk v3_b3x0_0), (0:Int)))

noncomputable def ref19_New_l3 (p1 : Int) (p2 : Int) (v3_0 : Int) (v3_b3x0_0 : (List api_Chain)) : Option (api_Sample × Int) :=
  loop (fun (s : (Int × (List api_Chain))) => ref19_New_l3s p1 p2 s.1 s.2) (v3_0, v3_b3x0_0)

noncomputable def ref19_New (p0 : Int) (p1 : Int) (p2 : Int) : Option (api_Sample × Int) :=
  cond ((decide (p0 < (1:Int))) || (decide (p0 > (16:Int)))) (
    some ((api_Sample.mk ([] : List api_Chain)), (1:Int))) <|
  ref19_New_l3 p1 p2 p0 ([] : List api_Chain)

noncomputable def law19_SampleNew (p0 : Int) (p1 : Int) (p2 : Int) : Option Bool :=
  Option.bind (sample_New p0 p1 p2) fun y1_3 =>
  Option.bind (ref19_New p0 p1 p2) fun y2_3 =>
  Option.bind (ref19_Same y1_3.1 y2_3.1) fun y3_2 =>
  Option.bind (gd (y3_2 && (y1_3.2 == y2_3.2)) law19_awake) fun y3_9 =>
  some ((y3_2 && (y1_3.2 == y2_3.2)) && y3_9)

noncomputable def ref19_Ask_l3s (p0 : api_Sample) (v3_5 : (List Int)) (v3_18 : Int) : Option (((List Int) × Int) ⊕ ((List Int) × Int)) :=
  cond (decide (v3_18 < (p0.Chains.length : Int))) (
    Option.bind (idx p0.Chains v3_18) fun x7_0 =>
    Option.bind (ref18_Ask x7_0) fun y8_1 =>
    cond (y8_1.2 != (0:Int)) (
      some (.inr (([] : List Int), y8_1.2))) <|
    ck (decide ((v3_5.length + [y8_1.1].length) * 8 ≤ 140737488355328)) <|
    some (.inl ((v3_5 ++ [y8_1.1]), (w64 (v3_18 + (1:Int)))))) <|
  Option.map Sum.inr (some (v3_5, (0:Int)))

noncomputable def ref19_Ask_l3 (p0 : api_Sample) (v3_5 : (List Int)) (v3_18 : Int) : Option ((List Int) × Int) :=
  loop (fun (s : ((List Int) × Int)) => ref19_Ask_l3s p0 s.1 s.2) (v3_5, v3_18)

noncomputable def ref19_Ask (p0 : api_Sample) : Option ((List Int) × Int) :=
  Option.bind (ref19_Validate p0) fun y1_1 =>
  cond (y1_1 != (0:Int)) (
    some (([] : List Int), y1_1)) <|
  ref19_Ask_l3 p0 ([] : List Int) (0:Int)

noncomputable def law19_SampleStates (p0 : api_Sample) : Option Bool :=
  Option.bind (law19_few p0) fun y1_1 =>
  cond (!y1_1) (
    Option.bind law19_awake fun y2_0 =>
    some y2_0) <|
  Option.bind (sample_Ask p0) fun y3_1 =>
  Option.bind (ref19_Ask p0) fun y4_1 =>
  Option.bind (sample_Validate p0) fun y5_1 =>
  Option.bind (ref19_Validate p0) fun y5_3 =>
  Option.bind (gd (y5_1 == y5_3) (ref09_SameNumbers y3_1.1 y4_1.1)) fun y5_8 =>
  Option.bind (gd (((y5_1 == y5_3) && y5_8) && (y3_1.2 == y4_1.2)) law19_awake) fun y5_16 =>
  some ((((y5_1 == y5_3) && y5_8) && (y3_1.2 == y4_1.2)) && y5_16)

end Go.Win
