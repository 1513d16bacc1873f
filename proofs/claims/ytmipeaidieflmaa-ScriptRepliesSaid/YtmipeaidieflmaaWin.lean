/- The functions of the program and of the statements, as functions on plain data: made by program out of the translated code. -/
import Derived.Test.YtmipeaidieflmaaVc
set_option linter.unusedVariables false
namespace Go.Win
open Go.Vc Go.Dec

structure api_Ratio where
  Num : Int
  Den : Int
  deriving Inhabited
def enc_api_Ratio (p : api_Ratio) : List AV := [.int .i64 p.Num, .int .i64 p.Den]
def wf_api_Ratio (p : api_Ratio) : Prop := (wfI .i64) p.Num ∧ (wfI .i64) p.Den
def wfU_api_Ratio (p : api_Ratio) : Prop := (wfI .i64) p.Num ∧ (wfI .i64) p.Den

structure api_Bounds where
  Lo : api_Ratio
  Est : api_Ratio
  Hi : api_Ratio
  deriving Inhabited
def enc_api_Bounds (p : api_Bounds) : List AV := [.int .i64 p.Lo.Num, .int .i64 p.Lo.Den, .int .i64 p.Est.Num, .int .i64 p.Est.Den, .int .i64 p.Hi.Num, .int .i64 p.Hi.Den]
def wf_api_Bounds (p : api_Bounds) : Prop := wf_api_Ratio p.Lo ∧ wf_api_Ratio p.Est ∧ wf_api_Ratio p.Hi
def wfU_api_Bounds (p : api_Bounds) : Prop := wfU_api_Ratio p.Lo ∧ wfU_api_Ratio p.Est ∧ wfU_api_Ratio p.Hi

structure api_Wide where
  Hi : Int
  Lo : Int
  deriving Inhabited
def enc_api_Wide (p : api_Wide) : List AV := [.int .u64 p.Hi, .int .u64 p.Lo]
def wf_api_Wide (p : api_Wide) : Prop := (wfI .u64) p.Hi ∧ (wfI .u64) p.Lo
def wfU_api_Wide (p : api_Wide) : Prop := (wfI .u64) p.Hi ∧ (wfI .u64) p.Lo

structure api_Fraction where
  Num : api_Wide
  Den : api_Wide
  deriving Inhabited
def enc_api_Fraction (p : api_Fraction) : List AV := [.int .u64 p.Num.Hi, .int .u64 p.Num.Lo, .int .u64 p.Den.Hi, .int .u64 p.Den.Lo]
def wf_api_Fraction (p : api_Fraction) : Prop := wf_api_Wide p.Num ∧ wf_api_Wide p.Den
def wfU_api_Fraction (p : api_Fraction) : Prop := wfU_api_Wide p.Num ∧ wfU_api_Wide p.Den

structure api_Answer where
  Bounds : api_Bounds
  Values : (List Int)
  Fraction : api_Fraction
  deriving Inhabited
def enc_api_Answer (p : api_Answer) : List AV := [.int .i64 p.Bounds.Lo.Num, .int .i64 p.Bounds.Lo.Den, .int .i64 p.Bounds.Est.Num, .int .i64 p.Bounds.Est.Den, .int .i64 p.Bounds.Hi.Num, .int .i64 p.Bounds.Hi.Den, .lst 1 false (List.map (eI .i64) p.Values), .int .u64 p.Fraction.Num.Hi, .int .u64 p.Fraction.Num.Lo, .int .u64 p.Fraction.Den.Hi, .int .u64 p.Fraction.Den.Lo]
def wf_api_Answer (p : api_Answer) : Prop := wf_api_Bounds p.Bounds ∧ (wfL (wfI .i64)) p.Values ∧ wf_api_Fraction p.Fraction
def wfU_api_Answer (p : api_Answer) : Prop := wfU_api_Bounds p.Bounds ∧ (wfLU (wfI .i64)) p.Values ∧ wfU_api_Fraction p.Fraction

structure api_Config where
  Kind : Int
  Agg : Int
  W : Int
  K : Int
  Cap : Int
  P : Int
  Chains : Int
  Max : Int
  deriving Inhabited
def enc_api_Config (p : api_Config) : List AV := [.int .i64 p.Kind, .int .i64 p.Agg, .int .i64 p.W, .int .i64 p.K, .int .i64 p.Cap, .int .i64 p.P, .int .i64 p.Chains, .int .i64 p.Max]
def wf_api_Config (p : api_Config) : Prop := (wfI .i64) p.Kind ∧ (wfI .i64) p.Agg ∧ (wfI .i64) p.W ∧ (wfI .i64) p.K ∧ (wfI .i64) p.Cap ∧ (wfI .i64) p.P ∧ (wfI .i64) p.Chains ∧ (wfI .i64) p.Max
def wfU_api_Config (p : api_Config) : Prop := (wfI .i64) p.Kind ∧ (wfI .i64) p.Agg ∧ (wfI .i64) p.W ∧ (wfI .i64) p.K ∧ (wfI .i64) p.Cap ∧ (wfI .i64) p.P ∧ (wfI .i64) p.Chains ∧ (wfI .i64) p.Max

structure api_Query where
  Op : Int
  A : Int
  B : Int
  deriving Inhabited
def enc_api_Query (p : api_Query) : List AV := [.int .i64 p.Op, .int .i64 p.A, .int .i64 p.B]
def wf_api_Query (p : api_Query) : Prop := (wfI .i64) p.Op ∧ (wfI .i64) p.A ∧ (wfI .i64) p.B
def wfU_api_Query (p : api_Query) : Prop := (wfI .i64) p.Op ∧ (wfI .i64) p.A ∧ (wfI .i64) p.B

structure api_Command where
  Op : Int
  ID : Int
  Config : api_Config
  T : Int
  V : Int
  Draws : (List Int)
  Query : api_Query
  Bytes : (List Int)
  deriving Inhabited
def enc_api_Command (p : api_Command) : List AV := [.int .i64 p.Op, .int .i64 p.ID, .int .i64 p.Config.Kind, .int .i64 p.Config.Agg, .int .i64 p.Config.W, .int .i64 p.Config.K, .int .i64 p.Config.Cap, .int .i64 p.Config.P, .int .i64 p.Config.Chains, .int .i64 p.Config.Max, .int .i64 p.T, .int .i64 p.V, .lst 1 false (List.map (eI .i64) p.Draws), .int .i64 p.Query.Op, .int .i64 p.Query.A, .int .i64 p.Query.B, .lst 1 false (List.map (eI .u8) p.Bytes)]
def wf_api_Command (p : api_Command) : Prop := (wfI .i64) p.Op ∧ (wfI .i64) p.ID ∧ wf_api_Config p.Config ∧ (wfI .i64) p.T ∧ (wfI .i64) p.V ∧ (wfL (wfI .i64)) p.Draws ∧ wf_api_Query p.Query ∧ (wfL (wfI .u8)) p.Bytes
def wfU_api_Command (p : api_Command) : Prop := (wfI .i64) p.Op ∧ (wfI .i64) p.ID ∧ wfU_api_Config p.Config ∧ (wfI .i64) p.T ∧ (wfI .i64) p.V ∧ (wfLU (wfI .i64)) p.Draws ∧ wfU_api_Query p.Query ∧ (wfLU (wfI .u8)) p.Bytes

structure api_Reply where
  Code : Int
  Answer : api_Answer
  IDs : (List Int)
  Bytes : (List Int)
  deriving Inhabited
def enc_api_Reply (p : api_Reply) : List AV := [.int .i64 p.Code, .int .i64 p.Answer.Bounds.Lo.Num, .int .i64 p.Answer.Bounds.Lo.Den, .int .i64 p.Answer.Bounds.Est.Num, .int .i64 p.Answer.Bounds.Est.Den, .int .i64 p.Answer.Bounds.Hi.Num, .int .i64 p.Answer.Bounds.Hi.Den, .lst 1 false (List.map (eI .i64) p.Answer.Values), .int .u64 p.Answer.Fraction.Num.Hi, .int .u64 p.Answer.Fraction.Num.Lo, .int .u64 p.Answer.Fraction.Den.Hi, .int .u64 p.Answer.Fraction.Den.Lo, .lst 1 false (List.map (eI .i64) p.IDs), .lst 1 false (List.map (eI .u8) p.Bytes)]
def wf_api_Reply (p : api_Reply) : Prop := (wfI .i64) p.Code ∧ wf_api_Answer p.Answer ∧ (wfL (wfI .i64)) p.IDs ∧ (wfL (wfI .u8)) p.Bytes
def wfU_api_Reply (p : api_Reply) : Prop := (wfI .i64) p.Code ∧ wfU_api_Answer p.Answer ∧ (wfLU (wfI .i64)) p.IDs ∧ (wfLU (wfI .u8)) p.Bytes

structure tape_Tape where
  Bytes : (List Int)
  At : Int
  Reading : Bool
  Bad : Bool
  deriving Inhabited
def enc_tape_Tape (p : tape_Tape) : List AV := [.lst 1 false (List.map (eI .u8) p.Bytes), .int .i64 p.At, .sb p.Reading, .sb p.Bad]
def wf_tape_Tape (p : tape_Tape) : Prop := (wfL (wfI .u8)) p.Bytes ∧ (wfI .i64) p.At ∧ (fun _ : Bool => True) p.Reading ∧ (fun _ : Bool => True) p.Bad
def wfU_tape_Tape (p : tape_Tape) : Prop := (wfLU (wfI .u8)) p.Bytes ∧ (wfI .i64) p.At ∧ (fun _ : Bool => True) p.Reading ∧ (fun _ : Bool => True) p.Bad

structure ref27_Cursor where
  L : (List Int)
  At : Int
  Bad : Bool
  deriving Inhabited
def enc_ref27_Cursor (p : ref27_Cursor) : List AV := [.lst 1 false (List.map (eI .i64) p.L), .int .i64 p.At, .sb p.Bad]
def wf_ref27_Cursor (p : ref27_Cursor) : Prop := (wfL (wfI .i64)) p.L ∧ (wfI .i64) p.At ∧ (fun _ : Bool => True) p.Bad
def wfU_ref27_Cursor (p : ref27_Cursor) : Prop := (wfLU (wfI .i64)) p.L ∧ (wfI .i64) p.At ∧ (fun _ : Bool => True) p.Bad

noncomputable def tape_Append_i3_l3s (b : (List Int)) (a : Int) : Option (((List Int) × Int) ⊕ (List Int)) :=
  cond (decide (a ≥ (128:Int))) (
    ck (decide ((b.length + [(ior .u8 (IntKind.u8.wrap a) (128:Int))].length) * 1 ≤ 140737488355328)) <|
    some (.inl ((b ++ [(ior .u8 (IntKind.u8.wrap a) (128:Int))]), (ishr .u64 a (7:Int))))) <|
  Option.map Sum.inr (ck (decide ((b.length + [(IntKind.u8.wrap a)].length) * 1 ≤ 140737488355328)) <|
  some (b ++ [(IntKind.u8.wrap a)]))


noncomputable def tape_Append_i3_l3 (a : (List Int)) (b : Int) : Option (List Int) :=
  loop (fun (s : ((List Int) × Int)) => tape_Append_i3_l3s s.1 s.2) (a, b)


noncomputable def tape_Append_i3_j1 (p0 : (List Int)) (a : Int) : Option (List Int) :=
  tape_Append_i3_l3 p0 a


noncomputable def tape_Append_i3 (p0 : (List Int)) (p1 : Int) : Option (List Int) :=
  cond (decide (p1 < (0:Int))) (
    tape_Append_i3_j1 p0 (inot .u64 (ishl .u64 (wu64 p1) (1:Int)))) <|
  tape_Append_i3_j1 p0 (ishl .u64 (wu64 p1) (1:Int))

noncomputable def codec_Append_i1 (p0 : (List Int)) (p1 : Int) : Option (List Int) :=
  ck (decide ((([] : List Int).length + p0.length) * 1 ≤ 140737488355328)) <|
  Option.bind (tape_Append_i3 (([] : List Int) ++ p0) p1) fun a =>
  some a

noncomputable def tape_Read_l3s (p0 : (List Int)) (p1 : Int) (c : Int) (a : Int) : Option ((Int × Int) ⊕ (Int × Int × Bool)) :=
  cond ((decide (a < (10:Int))) && (decide ((w64 (p1 + a)) < (p0.length : Int)))) (
    Option.bind (idx p0 (w64 (p1 + a))) fun b =>
    cond ((a == (9:Int)) && (decide (b > (1:Int)))) (
      some (.inr ((0:Int), (0:Int), false))) <|
    ck (decide (0 ≤ (wu64 (w64 ((7:Int) * a))))) <|
    cond (decide (b ≥ (128:Int))) (
      some (.inl ((ior .u64 c (ishl .u64 (wu64 (iand .u8 b (127:Int))) (wu64 (w64 ((7:Int) * a))))), (w64 (a + (1:Int)))))) <|
    cond ((b == (0:Int)) && (decide (a > (0:Int)))) (
      some (.inr ((0:Int), (0:Int), false))) <|
    cond ((iand .u64 (ior .u64 c (ishl .u64 (wu64 (iand .u8 b (127:Int))) (wu64 (w64 ((7:Int) * a))))) (1:Int)) == (1:Int)) (
      some (.inr ((inot .i64 (w64 (ishr .u64 (ior .u64 c (ishl .u64 (wu64 (iand .u8 b (127:Int))) (wu64 (w64 ((7:Int) * a))))) (1:Int)))), (w64 ((w64 (p1 + a)) + (1:Int))), true))) <|
    some (.inr ((w64 (ishr .u64 (ior .u64 c (ishl .u64 (wu64 (iand .u8 b (127:Int))) (wu64 (w64 ((7:Int) * a))))) (1:Int))), (w64 ((w64 (p1 + a)) + (1:Int))), true))) <|
  Option.map Sum.inr (some ((0:Int), (0:Int), false))


noncomputable def tape_Read_l3 (p0 : (List Int)) (p1 : Int) (a : Int) (b : Int) : Option (Int × Int × Bool) :=
  loop (fun (s : (Int × Int)) => tape_Read_l3s p0 p1 s.1 s.2) (a, b)


noncomputable def tape_Read (p0 : (List Int)) (p1 : Int) : Option (Int × Int × Bool) :=
  cond ((decide (p1 < (0:Int))) || (decide (p1 > (p0.length : Int)))) (
    some ((0:Int), (0:Int), false)) <|
  tape_Read_l3 p0 p1 (0:Int) (0:Int)

noncomputable def tape_Tape_Int_i4 (b0_0 : (List Int)) (b0_1 : Int) (b0_3 : Bool) (b1 : Int) : Option (Int × Bool × Int) :=
  cond b0_3 (
    some (b0_1, b0_3, b1)) <|
  Option.bind (tape_Read b0_0 b0_1) fun a =>
  cond (!a.2.2) (
    some (b0_1, true, b1)) <|
  some (a.2.1, b0_3, a.1)

noncomputable def tape_Tape_Within_i3 (p2 : Int) (p3 : Int) (b0_0 : (List Int)) (b0_1 : Int) (b0_3 : Bool) (b1 : Int) : Option (Int × Bool × Int) :=
  Option.bind (tape_Tape_Int_i4 b0_0 b0_1 b0_3 b1) fun a =>
  cond ((decide (a.2.2 < p2)) || (decide (a.2.2 > p3))) (
    some (a.1, true, a.2.2)) <|
  some (a.1, a.2.1, a.2.2)

noncomputable def tape_List_int64__i4_l7s (b0_0 : (List Int)) (e : Int) (a : Bool) (b : (List Int)) (c : Int) : Option ((Int × Bool × (List Int) × Int) ⊕ (Int × Bool × (List Int))) :=
  cond ((decide (c > (0:Int))) && (!a)) (
    Option.bind (tape_Tape_Int_i4 b0_0 e a (0:Int)) fun d =>
    ck (decide ((b.length + [d.2.2].length) * 8 ≤ 140737488355328)) <|
    some (.inl (d.1, d.2.1, (b ++ [d.2.2]), (w64 (c - (1:Int)))))) <|
  Option.map Sum.inr (some (e, a, b))


noncomputable def tape_List_int64__i4_l7 (b0_0 : (List Int)) (b : Int) (c : Bool) (d : (List Int)) (a : Int) : Option (Int × Bool × (List Int)) :=
  loop (fun (s : (Int × Bool × (List Int) × Int)) => tape_List_int64__i4_l7s b0_0 s.1 s.2.1 s.2.2.1 s.2.2.2) (b, c, d, a)


noncomputable def tape_List_int64__i4 (b0_0 : (List Int)) (b0_1 : Int) (b0_3 : Bool) : Option (Int × Bool × (List Int)) :=
  Option.bind (tape_Tape_Within_i3 (0:Int) (w64 ((b0_0.length : Int) - b0_1)) b0_0 b0_1 b0_3 (0:Int)) fun a =>
  tape_List_int64__i4_l7 b0_0 a.1 a.2.1 ([] : List Int) a.2.2

noncomputable def tape_Tape_Ints_i2 (b0_0 : (List Int)) (b0_1 : Int) (b0_3 : Bool) : Option (Int × Bool × (List Int)) :=
  Option.bind (tape_List_int64__i4 b0_0 b0_1 b0_3) fun a =>
  some (a.1, a.2.1, a.2.2)

noncomputable def tape_Tape_Ratio_i1 (b0_0 : (List Int)) (b0_1 : Int) (b0_3 : Bool) (b1 : api_Ratio) : Option (Int × Bool × api_Ratio) :=
  Option.bind (tape_Tape_Int_i4 b0_0 b0_1 b0_3 b1.Num) fun a =>
  Option.bind (tape_Tape_Int_i4 b0_0 a.1 a.2.1 b1.Den) fun b =>
  some (b.1, b.2.1, (api_Ratio.mk a.2.2 b.2.2))

noncomputable def tape_Tape_Small_i4 (b0_0 : (List Int)) (b0_1 : Int) (b0_3 : Bool) (b1 : Int) : Option (Int × Bool × Int) :=
  Option.bind (tape_Tape_Int_i4 b0_0 b0_1 b0_3 b1) fun a =>
  some (a.1, a.2.1, a.2.2)

noncomputable def tape_Tape_Text_1_i2 (b0 : Int) (b2_0 : (List Int)) (b2_1 : Int) (b2_3 : Bool) : Option (Int × Int × Bool) :=
  Option.bind (tape_Tape_Within_i3 (0:Int) (255:Int) b2_0 b2_1 b2_3 (w64 b0)) fun a =>
  some ((IntKind.u8.wrap a.2.2), a.1, a.2.1)

noncomputable def tape_List_byte__i4_l7s (b0_0 : (List Int)) (e : Int) (a : Bool) (b : (List Int)) (c : Int) : Option ((Int × Bool × (List Int) × Int) ⊕ (Int × Bool × (List Int))) :=
  cond ((decide (c > (0:Int))) && (!a)) (
    Option.bind (tape_Tape_Text_1_i2 (0:Int) b0_0 e a) fun d =>
    ck (decide ((b.length + [d.1].length) * 1 ≤ 140737488355328)) <|
    some (.inl (d.2.1, d.2.2, (b ++ [d.1]), (w64 (c - (1:Int)))))) <|
  Option.map Sum.inr (some (e, a, b))


noncomputable def tape_List_byte__i4_l7 (b0_0 : (List Int)) (b : Int) (c : Bool) (d : (List Int)) (a : Int) : Option (Int × Bool × (List Int)) :=
  loop (fun (s : (Int × Bool × (List Int) × Int)) => tape_List_byte__i4_l7s b0_0 s.1 s.2.1 s.2.2.1 s.2.2.2) (b, c, d, a)


noncomputable def tape_List_byte__i4 (b0_0 : (List Int)) (b0_1 : Int) (b0_3 : Bool) : Option (Int × Bool × (List Int)) :=
  Option.bind (tape_Tape_Within_i3 (0:Int) (w64 ((b0_0.length : Int) - b0_1)) b0_0 b0_1 b0_3 (0:Int)) fun a =>
  tape_List_byte__i4_l7 b0_0 a.1 a.2.1 ([] : List Int) a.2.2

noncomputable def tape_Tape_Text_i2 (b0_0 : (List Int)) (b0_1 : Int) (b0_3 : Bool) : Option (Int × Bool × (List Int)) :=
  Option.bind (tape_List_byte__i4 b0_0 b0_1 b0_3) fun a =>
  some (a.1, a.2.1, a.2.2)

noncomputable def tape_Tape_Word_i2 (b0_0 : (List Int)) (b0_1 : Int) (b0_3 : Bool) (b1 : Int) : Option (Int × Bool × Int) :=
  Option.bind (tape_Tape_Int_i4 b0_0 b0_1 b0_3 (w64 b1)) fun a =>
  some (a.1, a.2.1, (wu64 a.2.2))

noncomputable def tape_Tape_Wide_i1 (b0_0 : (List Int)) (b0_1 : Int) (b0_3 : Bool) (b1 : api_Wide) : Option (Int × Bool × api_Wide) :=
  Option.bind (tape_Tape_Word_i2 b0_0 b0_1 b0_3 b1.Hi) fun a =>
  Option.bind (tape_Tape_Word_i2 b0_0 a.1 a.2.1 b1.Lo) fun b =>
  some (b.1, b.2.1, (api_Wide.mk a.2.2 b.2.2))

noncomputable def codec_reply_i1 (b0_0 : (List Int)) (b0_1 : Int) (b0_3 : Bool) (b1_0 : Int) (b1_1 : Int) (b1_2 : Int) (b1_3 : Int) (b1_4 : Int) (b1_5 : Int) (b1_6 : Int) (b1_8 : Int) (b1_9 : Int) (b1_10 : Int) (b1_11 : Int) : Option (Int × Bool × Int × Int × Int × Int × Int × Int × Int × Int × Int × Int × Int × (List Int) × (List Int) × (List Int)) :=
  Option.bind (tape_Tape_Small_i4 b0_0 b0_1 b0_3 b1_0) fun g =>
  Option.bind (tape_Tape_Ratio_i1 b0_0 g.1 g.2.1 (api_Ratio.mk b1_1 b1_2)) fun a =>
  Option.bind (tape_Tape_Ratio_i1 b0_0 a.1 a.2.1 (api_Ratio.mk b1_3 b1_4)) fun b =>
  Option.bind (tape_Tape_Ratio_i1 b0_0 b.1 b.2.1 (api_Ratio.mk b1_5 b1_6)) fun c =>
  Option.bind (tape_Tape_Ints_i2 b0_0 c.1 c.2.1) fun h =>
  Option.bind (tape_Tape_Wide_i1 b0_0 h.1 h.2.1 (api_Wide.mk b1_8 b1_9)) fun d =>
  Option.bind (tape_Tape_Wide_i1 b0_0 d.1 d.2.1 (api_Wide.mk b1_10 b1_11)) fun e =>
  Option.bind (tape_Tape_Ints_i2 b0_0 e.1 e.2.1) fun i =>
  Option.bind (tape_Tape_Text_i2 b0_0 i.1 i.2.1) fun f =>
  some (f.1, f.2.1, g.2.2, a.2.2.Num, a.2.2.Den, b.2.2.Num, b.2.2.Den, c.2.2.Num, c.2.2.Den, d.2.2.Hi, d.2.2.Lo, e.2.2.Hi, e.2.2.Lo, i.2.2, f.2.2, h.2.2)

noncomputable def codec_DecodeReply (p0 : (List Int)) : Option (api_Reply × Int) :=
  Option.bind (codec_reply_i1 p0 (0:Int) (decide ((p0.length : Int) > (1048576:Int))) (0:Int) (0:Int) (0:Int) (0:Int) (0:Int) (0:Int) (0:Int) (0:Int) (0:Int) (0:Int) (0:Int)) fun a =>
  cond (a.2.1 || (a.1 != (p0.length : Int))) (
    some ((api_Reply.mk (0:Int) (api_Answer.mk (api_Bounds.mk (api_Ratio.mk (0:Int) (0:Int)) (api_Ratio.mk (0:Int) (0:Int)) (api_Ratio.mk (0:Int) (0:Int))) ([] : List Int) (api_Fraction.mk (api_Wide.mk (0:Int) (0:Int)) (api_Wide.mk (0:Int) (0:Int)))) ([] : List Int) ([] : List Int)), (13:Int))) <|
  some ((api_Reply.mk a.2.2.1 (api_Answer.mk (api_Bounds.mk (api_Ratio.mk a.2.2.2.1 a.2.2.2.2.1) (api_Ratio.mk a.2.2.2.2.2.1 a.2.2.2.2.2.2.1) (api_Ratio.mk a.2.2.2.2.2.2.2.1 a.2.2.2.2.2.2.2.2.1)) a.2.2.2.2.2.2.2.2.2.2.2.2.2.2.2 (api_Fraction.mk (api_Wide.mk a.2.2.2.2.2.2.2.2.2.1 a.2.2.2.2.2.2.2.2.2.2.1) (api_Wide.mk a.2.2.2.2.2.2.2.2.2.2.2.1 a.2.2.2.2.2.2.2.2.2.2.2.2.1))) a.2.2.2.2.2.2.2.2.2.2.2.2.2.1 a.2.2.2.2.2.2.2.2.2.2.2.2.2.2.1), (0:Int))

noncomputable def tape_Tape_Int_i3 (b0_0 : (List Int)) (b0_1 : Int) (b1 : Int) : Option (List Int) :=
  Option.bind (tape_Append_i3 b0_0 b1) fun a =>
  some a

noncomputable def tape_Tape_Small_i3 (b0_0 : (List Int)) (b0_1 : Int) (b1 : Int) : Option (List Int) :=
  Option.bind (tape_Tape_Int_i3 b0_0 b0_1 b1) fun a =>
  some a

noncomputable def tape_Tape_Config_i1 (b0_0 : (List Int)) (b0_1 : Int) (b1 : api_Config) : Option (List Int) :=
  Option.bind (tape_Tape_Small_i3 b0_0 b0_1 b1.Kind) fun a =>
  Option.bind (tape_Tape_Small_i3 a b0_1 b1.Agg) fun b =>
  Option.bind (tape_Tape_Int_i3 b b0_1 b1.W) fun c =>
  Option.bind (tape_Tape_Small_i3 c b0_1 b1.K) fun d =>
  Option.bind (tape_Tape_Small_i3 d b0_1 b1.Cap) fun e =>
  Option.bind (tape_Tape_Small_i3 e b0_1 b1.P) fun f =>
  Option.bind (tape_Tape_Small_i3 f b0_1 b1.Chains) fun g =>
  Option.bind (tape_Tape_Int_i3 g b0_1 b1.Max) fun h =>
  some h

noncomputable def tape_Tape_Within_i2 (p2 : Int) (p3 : Int) (b0_0 : (List Int)) (b0_1 : Int) (b1 : Int) : Option (List Int) :=
  Option.bind (tape_Tape_Int_i3 b0_0 b0_1 b1) fun a =>
  some a

noncomputable def tape_List_int64__i3_l3s (b0_1 : Int) (b1 : (List Int)) (b : Int) (a : (List Int)) : Option ((Int × (List Int)) ⊕ (List Int)) :=
  cond (decide (b < (b1.length : Int))) (
    Option.bind (idx b1 b) fun c =>
    Option.bind (tape_Tape_Int_i3 a b0_1 c) fun d =>
    some (.inl ((w64 (b + (1:Int))), d))) <|
  Option.map Sum.inr (some a)


noncomputable def tape_List_int64__i3_l3 (b0_1 : Int) (b1 : (List Int)) (b : Int) (a : (List Int)) : Option (List Int) :=
  loop (fun (s : (Int × (List Int))) => tape_List_int64__i3_l3s b0_1 b1 s.1 s.2) (b, a)


noncomputable def tape_List_int64__i3 (b0_0 : (List Int)) (b0_1 : Int) (b1 : (List Int)) : Option (List Int) :=
  Option.bind (tape_Tape_Within_i2 (0:Int) (w64 ((b0_0.length : Int) - b0_1)) b0_0 b0_1 (b1.length : Int)) fun a =>
  tape_List_int64__i3_l3 b0_1 b1 (0:Int) a

noncomputable def tape_Tape_Ints_i1 (b0_0 : (List Int)) (b0_1 : Int) (b1 : (List Int)) : Option (List Int) :=
  Option.bind (tape_List_int64__i3 b0_0 b0_1 b1) fun a =>
  some a

noncomputable def tape_Append_i2_l3s (b : (List Int)) (a : Int) : Option (((List Int) × Int) ⊕ (List Int)) :=
  cond (decide (a ≥ (128:Int))) (
    ck (decide ((b.length + [(ior .u8 (IntKind.u8.wrap a) (128:Int))].length) * 1 ≤ 140737488355328)) <|
    some (.inl ((b ++ [(ior .u8 (IntKind.u8.wrap a) (128:Int))]), (ishr .u64 a (7:Int))))) <|
  Option.map Sum.inr (ck (decide ((b.length + [(IntKind.u8.wrap a)].length) * 1 ≤ 140737488355328)) <|
  some (b ++ [(IntKind.u8.wrap a)]))


noncomputable def tape_Append_i2_l3 (a : (List Int)) (b : Int) : Option (List Int) :=
  loop (fun (s : ((List Int) × Int)) => tape_Append_i2_l3s s.1 s.2) (a, b)


noncomputable def tape_Append_i2_j1 (a : Int) : Option (List Int) :=
  tape_Append_i2_l3 ([] : List Int) a


noncomputable def tape_Append_i2 (p1 : Int) : Option (List Int) :=
  cond (decide (p1 < (0:Int))) (
    tape_Append_i2_j1 (inot .u64 (ishl .u64 (wu64 p1) (1:Int)))) <|
  tape_Append_i2_j1 (ishl .u64 (wu64 p1) (1:Int))

noncomputable def tape_Tape_Int_i2 (b0_1 : Int) (b1 : Int) : Option (List Int) :=
  Option.bind (tape_Append_i2 b1) fun a =>
  some a

noncomputable def tape_Tape_Small_i2 (b0_1 : Int) (b1 : Int) : Option (List Int) :=
  Option.bind (tape_Tape_Int_i2 b0_1 b1) fun a =>
  some a

noncomputable def tape_Tape_Text_1_i1 (b0 : Int) (b2_0 : (List Int)) (b2_1 : Int) : Option (Int × (List Int)) :=
  Option.bind (tape_Tape_Within_i2 (0:Int) (255:Int) b2_0 b2_1 (w64 b0)) fun a =>
  some ((IntKind.u8.wrap (w64 b0)), a)

noncomputable def tape_List_byte__i3_l3s (b0_1 : Int) (b1 : (List Int)) (b : Int) (a : (List Int)) : Option ((Int × (List Int)) ⊕ (List Int)) :=
  cond (decide (b < (b1.length : Int))) (
    Option.bind (idx b1 b) fun c =>
    Option.bind (tape_Tape_Text_1_i1 c a b0_1) fun d =>
    some (.inl ((w64 (b + (1:Int))), d.2))) <|
  Option.map Sum.inr (some a)


noncomputable def tape_List_byte__i3_l3 (b0_1 : Int) (b1 : (List Int)) (b : Int) (a : (List Int)) : Option (List Int) :=
  loop (fun (s : (Int × (List Int))) => tape_List_byte__i3_l3s b0_1 b1 s.1 s.2) (b, a)


noncomputable def tape_List_byte__i3 (b0_0 : (List Int)) (b0_1 : Int) (b1 : (List Int)) : Option (List Int) :=
  Option.bind (tape_Tape_Within_i2 (0:Int) (w64 ((b0_0.length : Int) - b0_1)) b0_0 b0_1 (b1.length : Int)) fun a =>
  tape_List_byte__i3_l3 b0_1 b1 (0:Int) a

noncomputable def tape_Tape_Text_i1 (b0_0 : (List Int)) (b0_1 : Int) (b1 : (List Int)) : Option (List Int) :=
  Option.bind (tape_List_byte__i3 b0_0 b0_1 b1) fun a =>
  some a

noncomputable def codec_command_i1 (b0_1 : Int) (b1 : api_Command) : Option (List Int) :=
  Option.bind (tape_Tape_Small_i2 b0_1 b1.Op) fun a =>
  Option.bind (tape_Tape_Int_i3 a b0_1 b1.ID) fun b =>
  Option.bind (tape_Tape_Config_i1 b b0_1 b1.Config) fun c =>
  Option.bind (tape_Tape_Int_i3 c b0_1 b1.T) fun d =>
  Option.bind (tape_Tape_Int_i3 d b0_1 b1.V) fun e =>
  Option.bind (tape_Tape_Ints_i1 e b0_1 b1.Draws) fun f =>
  Option.bind (tape_Tape_Small_i3 f b0_1 b1.Query.Op) fun g =>
  Option.bind (tape_Tape_Int_i3 g b0_1 b1.Query.A) fun h =>
  Option.bind (tape_Tape_Int_i3 h b0_1 b1.Query.B) fun i =>
  Option.bind (tape_Tape_Text_i1 i b0_1 b1.Bytes) fun j =>
  some j

noncomputable def codec_written (p0 : tape_Tape) : ((List Int) × Int) :=
  cond (decide ((p0.Bytes.length : Int) > (1048576:Int))) (
    (([] : List Int), (5:Int))) <|
  (p0.Bytes, (0:Int))

noncomputable def codec_EncodeCommand (p0 : api_Command) : Option ((List Int) × Int) :=
  Option.bind (codec_command_i1 (0:Int) p0) fun b =>
  let a := (codec_written (tape_Tape.mk b (0:Int) false false));
  some (a.1, a.2)

noncomputable def codec_Read (p0 : (List Int)) (p1 : Int) : Option (Int × Int × Bool) :=
  Option.bind (tape_Read p0 p1) fun a =>
  some (a.1, a.2.1, a.2.2)

noncomputable def script_frame (p0 : (List Int)) (p1 : (List Int)) : Option (List Int) :=
  Option.bind (codec_Append_i1 p0 (p1.length : Int)) fun a =>
  ck (decide ((a.length + p1.length) * 1 ≤ 140737488355328)) <|
  some (a ++ p1)

noncomputable def script_Join_l2s (p0 : (List api_Command)) (c : (List Int)) (a : Int) : Option (((List Int) × Int) ⊕ ((List Int) × Int)) :=
  cond (decide (a < (p0.length : Int))) (
    Option.bind (idx p0 a) fun d =>
    Option.bind (codec_EncodeCommand d) fun b =>
    cond (b.2 != (0:Int)) (
      some (.inr (([] : List Int), b.2))) <|
    Option.bind (script_frame c b.1) fun e =>
    some (.inl (e, (w64 (a + (1:Int)))))) <|
  Option.map Sum.inr (some (c, (0:Int)))


noncomputable def script_Join_l2 (p0 : (List api_Command)) (b : (List Int)) (a : Int) : Option ((List Int) × Int) :=
  loop (fun (s : ((List Int) × Int)) => script_Join_l2s p0 s.1 s.2) (b, a)


noncomputable def script_Join (p0 : (List api_Command)) : Option ((List Int) × Int) :=
  script_Join_l2 p0 ([] : List Int) (0:Int)

noncomputable def law30_awake : Option Bool :=
  Option.bind (script_Join [(api_Command.mk (6:Int) (0:Int) (api_Config.mk (0:Int) (0:Int) (0:Int) (0:Int) (0:Int) (0:Int) (0:Int) (0:Int)) (0:Int) (0:Int) ([] : List Int) (api_Query.mk (0:Int) (0:Int) (0:Int)) ([] : List Int))]) fun a =>
  Option.bind (gd ((a.2 == (0:Int)) && ((a.1.length : Int) == (18:Int))) (idx a.1 (0:Int))) fun b =>
  Option.bind (gd (((a.2 == (0:Int)) && ((a.1.length : Int) == (18:Int))) && (b == (34:Int))) (idx a.1 (1:Int))) fun c =>
  some ((((a.2 == (0:Int)) && ((a.1.length : Int) == (18:Int))) && (b == (34:Int))) && (c == (12:Int)))

noncomputable def ref09_SameNumbers_l3s (p0 : (List Int)) (p1 : (List Int)) (a : Int) : Option (Int ⊕ Bool) :=
  cond (decide (a < (p0.length : Int))) (
    Option.bind (idx p0 a) fun b =>
    Option.bind (idx p1 a) fun c =>
    cond (b != c) (
      some (.inr false)) <|
    some (.inl (w64 (a + (1:Int))))) <|
  Option.map Sum.inr (some true)


noncomputable def ref09_SameNumbers_l3 (p0 : (List Int)) (p1 : (List Int)) (a : Int) : Option Bool :=
  loop (fun (s : Int) => ref09_SameNumbers_l3s p0 p1 s) a


noncomputable def ref09_SameNumbers (p0 : (List Int)) (p1 : (List Int)) : Option Bool :=
  cond ((p0.length : Int) != (p1.length : Int)) (
    some false) <|
  ref09_SameNumbers_l3 p0 p1 (0:Int)

noncomputable def ref27_Bytes_l2s (p0 : (List Int)) (b : (List Int)) (a : Int) : Option (((List Int) × Int) ⊕ (List Int)) :=
  cond (decide (a < (p0.length : Int))) (
    Option.bind (idx p0 a) fun c =>
    ck (decide ((b.length + [(w64 c)].length) * 8 ≤ 140737488355328)) <|
    some (.inl ((b ++ [(w64 c)]), (w64 (a + (1:Int)))))) <|
  Option.map Sum.inr (some b)


noncomputable def ref27_Bytes_l2 (p0 : (List Int)) (b : (List Int)) (a : Int) : Option (List Int) :=
  loop (fun (s : ((List Int) × Int)) => ref27_Bytes_l2s p0 s.1 s.2) (b, a)


noncomputable def ref27_Bytes (p0 : (List Int)) : Option (List Int) :=
  ref27_Bytes_l2 p0 [(p0.length : Int)] (0:Int)

noncomputable def ref27_List (p0 : (List Int)) : Option (List Int) :=
  ck (decide (([(p0.length : Int)].length + p0.length) * 8 ≤ 140737488355328)) <|
  some ([(p0.length : Int)] ++ p0)

noncomputable def ref27_Reply (p0 : api_Reply) : Option (List Int) :=
  Option.bind (ref27_List p0.Answer.Values) fun a =>
  ck (decide (([p0.Code, p0.Answer.Bounds.Lo.Num, p0.Answer.Bounds.Lo.Den, p0.Answer.Bounds.Est.Num, p0.Answer.Bounds.Est.Den, p0.Answer.Bounds.Hi.Num, p0.Answer.Bounds.Hi.Den].length + a.length) * 8 ≤ 140737488355328)) <|
  ck (decide ((([p0.Code, p0.Answer.Bounds.Lo.Num, p0.Answer.Bounds.Lo.Den, p0.Answer.Bounds.Est.Num, p0.Answer.Bounds.Est.Den, p0.Answer.Bounds.Hi.Num, p0.Answer.Bounds.Hi.Den] ++ a).length + [(w64 p0.Answer.Fraction.Num.Hi), (w64 p0.Answer.Fraction.Num.Lo), (w64 p0.Answer.Fraction.Den.Hi), (w64 p0.Answer.Fraction.Den.Lo)].length) * 8 ≤ 140737488355328)) <|
  Option.bind (ref27_List p0.IDs) fun b =>
  ck (decide (((([p0.Code, p0.Answer.Bounds.Lo.Num, p0.Answer.Bounds.Lo.Den, p0.Answer.Bounds.Est.Num, p0.Answer.Bounds.Est.Den, p0.Answer.Bounds.Hi.Num, p0.Answer.Bounds.Hi.Den] ++ a) ++ [(w64 p0.Answer.Fraction.Num.Hi), (w64 p0.Answer.Fraction.Num.Lo), (w64 p0.Answer.Fraction.Den.Hi), (w64 p0.Answer.Fraction.Den.Lo)]).length + b.length) * 8 ≤ 140737488355328)) <|
  Option.bind (ref27_Bytes p0.Bytes) fun c =>
  ck (decide ((((([p0.Code, p0.Answer.Bounds.Lo.Num, p0.Answer.Bounds.Lo.Den, p0.Answer.Bounds.Est.Num, p0.Answer.Bounds.Est.Den, p0.Answer.Bounds.Hi.Num, p0.Answer.Bounds.Hi.Den] ++ a) ++ [(w64 p0.Answer.Fraction.Num.Hi), (w64 p0.Answer.Fraction.Num.Lo), (w64 p0.Answer.Fraction.Den.Hi), (w64 p0.Answer.Fraction.Den.Lo)]) ++ b).length + c.length) * 8 ≤ 140737488355328)) <|
  some (((([p0.Code, p0.Answer.Bounds.Lo.Num, p0.Answer.Bounds.Lo.Den, p0.Answer.Bounds.Est.Num, p0.Answer.Bounds.Est.Den, p0.Answer.Bounds.Hi.Num, p0.Answer.Bounds.Hi.Den] ++ a) ++ [(w64 p0.Answer.Fraction.Num.Hi), (w64 p0.Answer.Fraction.Num.Lo), (w64 p0.Answer.Fraction.Den.Hi), (w64 p0.Answer.Fraction.Den.Lo)]) ++ b) ++ c)

noncomputable def ref27_SameReply (p0 : api_Reply) (p1 : api_Reply) : Option Bool :=
  Option.bind (ref27_Reply p0) fun a =>
  Option.bind (ref27_Reply p1) fun b =>
  Option.bind (ref09_SameNumbers a b) fun c =>
  some c

noncomputable def ref27_Cursor_Take (p0 : ref27_Cursor) : Option (Int × ref27_Cursor) :=
  cond (decide (p0.At ≥ (p0.L.length : Int))) (
    some ((0:Int), (ref27_Cursor.mk p0.L p0.At true))) <|
  Option.bind (idx p0.L (w64 ((w64 (p0.At + (1:Int))) - (1:Int)))) fun a =>
  some (a, (ref27_Cursor.mk p0.L (w64 (p0.At + (1:Int))) p0.Bad))

noncomputable def ref27_Cursor_Many (p0 : ref27_Cursor) : Option (Int × ref27_Cursor) :=
  Option.bind (ref27_Cursor_Take p0) fun a =>
  cond ((decide (a.1 < (0:Int))) || (decide (a.1 > (w64 ((a.2.L.length : Int) - a.2.At))))) (
    some ((0:Int), (ref27_Cursor.mk a.2.L a.2.At true))) <|
  some (a.1, a.2)

noncomputable def ref27_Cursor_Bytes_l2s (e : (List Int)) (f : Int) (b : (List Int)) (c : Int) (d : Bool) : Option (((List Int) × Int × (List Int) × Int × Bool) ⊕ ((List Int) × ref27_Cursor)) :=
  cond (decide (f > (0:Int))) (
    Option.bind (ref27_Cursor_Take (ref27_Cursor.mk b c d)) fun a =>
    cond ((decide (a.1 < (0:Int))) || (decide (a.1 > (255:Int)))) (
      some (.inr (([] : List Int), (ref27_Cursor.mk a.2.L a.2.At true)))) <|
    ck (decide ((e.length + [(IntKind.u8.wrap a.1)].length) * 1 ≤ 140737488355328)) <|
    some (.inl ((e ++ [(IntKind.u8.wrap a.1)]), (w64 (f - (1:Int))), a.2.L, a.2.At, a.2.Bad))) <|
  Option.map Sum.inr (some (e, (ref27_Cursor.mk b c d)))


noncomputable def ref27_Cursor_Bytes_l2 (d : (List Int)) (e : Int) (a : (List Int)) (b : Int) (c : Bool) : Option ((List Int) × ref27_Cursor) :=
  loop (fun (s : ((List Int) × Int × (List Int) × Int × Bool)) => ref27_Cursor_Bytes_l2s s.1 s.2.1 s.2.2.1 s.2.2.2.1 s.2.2.2.2) (d, e, a, b, c)


noncomputable def ref27_Cursor_Bytes (p0 : ref27_Cursor) : Option ((List Int) × ref27_Cursor) :=
  Option.bind (ref27_Cursor_Many p0) fun a =>
  ref27_Cursor_Bytes_l2 ([] : List Int) a.1 a.2.L a.2.At a.2.Bad

noncomputable def ref27_Cursor_List_l2s (e : (List Int)) (f : Int) (b : (List Int)) (c : Int) (d : Bool) : Option (((List Int) × Int × (List Int) × Int × Bool) ⊕ ((List Int) × ref27_Cursor)) :=
  cond (decide (f > (0:Int))) (
    Option.bind (ref27_Cursor_Take (ref27_Cursor.mk b c d)) fun a =>
    ck (decide ((e.length + [a.1].length) * 8 ≤ 140737488355328)) <|
    some (.inl ((e ++ [a.1]), (w64 (f - (1:Int))), a.2.L, a.2.At, a.2.Bad))) <|
  Option.map Sum.inr (some (e, (ref27_Cursor.mk b c d)))


noncomputable def ref27_Cursor_List_l2 (d : (List Int)) (e : Int) (a : (List Int)) (b : Int) (c : Bool) : Option ((List Int) × ref27_Cursor) :=
  loop (fun (s : ((List Int) × Int × (List Int) × Int × Bool)) => ref27_Cursor_List_l2s s.1 s.2.1 s.2.2.1 s.2.2.2.1 s.2.2.2.2) (d, e, a, b, c)


noncomputable def ref27_Cursor_List (p0 : ref27_Cursor) : Option ((List Int) × ref27_Cursor) :=
  Option.bind (ref27_Cursor_Many p0) fun a =>
  ref27_Cursor_List_l2 ([] : List Int) a.1 a.2.L a.2.At a.2.Bad

noncomputable def ref27_Cursor_Wide (p0 : ref27_Cursor) : Option (api_Wide × ref27_Cursor) :=
  Option.bind (ref27_Cursor_Take p0) fun a =>
  Option.bind (ref27_Cursor_Take a.2) fun b =>
  some ((api_Wide.mk (wu64 a.1) (wu64 b.1)), b.2)

noncomputable def ref27_Cursor_ratio (p0 : ref27_Cursor) : Option (api_Ratio × ref27_Cursor) :=
  Option.bind (ref27_Cursor_Take p0) fun a =>
  Option.bind (ref27_Cursor_Take a.2) fun b =>
  some ((api_Ratio.mk a.1 b.1), b.2)

noncomputable def ref27_Read_l3s (p0 : (List Int)) (p1 : Int) (c : Int) (a : Int) : Option ((Int × Int) ⊕ (Int × Int × Bool)) :=
  cond ((decide (a < (10:Int))) && (decide ((w64 (p1 + a)) < (p0.length : Int)))) (
    Option.bind (idx p0 (w64 (p1 + a))) fun b =>
    cond ((a == (9:Int)) && (decide (b > (1:Int)))) (
      some (.inr ((0:Int), (0:Int), false))) <|
    ck (decide (0 ≤ (wu64 (w64 ((7:Int) * a))))) <|
    cond (decide (b ≥ (128:Int))) (
      some (.inl ((ior .u64 c (ishl .u64 (wu64 (iand .u8 b (127:Int))) (wu64 (w64 ((7:Int) * a))))), (w64 (a + (1:Int)))))) <|
    cond ((b == (0:Int)) && (decide (a > (0:Int)))) (
      some (.inr ((0:Int), (0:Int), false))) <|
    cond ((iand .u64 (ior .u64 c (ishl .u64 (wu64 (iand .u8 b (127:Int))) (wu64 (w64 ((7:Int) * a))))) (1:Int)) == (1:Int)) (
      some (.inr ((w64 ((IntKind.i64.wrap (0 - (w64 (ishr .u64 (ior .u64 c (ishl .u64 (wu64 (iand .u8 b (127:Int))) (wu64 (w64 ((7:Int) * a))))) (1:Int))))) - (1:Int))), (w64 ((w64 (p1 + a)) + (1:Int))), true))) <|
    some (.inr ((w64 (ishr .u64 (ior .u64 c (ishl .u64 (wu64 (iand .u8 b (127:Int))) (wu64 (w64 ((7:Int) * a))))) (1:Int))), (w64 ((w64 (p1 + a)) + (1:Int))), true))) <|
  Option.map Sum.inr (some ((0:Int), (0:Int), false))


noncomputable def ref27_Read_l3 (p0 : (List Int)) (p1 : Int) (a : Int) (b : Int) : Option (Int × Int × Bool) :=
  loop (fun (s : (Int × Int)) => ref27_Read_l3s p0 p1 s.1 s.2) (a, b)


noncomputable def ref27_Read (p0 : (List Int)) (p1 : Int) : Option (Int × Int × Bool) :=
  cond ((decide (p1 < (0:Int))) || (decide (p1 > (p0.length : Int)))) (
    some ((0:Int), (0:Int), false)) <|
  ref27_Read_l3 p0 p1 (0:Int) (0:Int)

noncomputable def ref27_Numbers_l2s (p0 : (List Int)) (b : (List Int)) (c : Int) : Option (((List Int) × Int) ⊕ ((List Int) × Int)) :=
  cond (decide (c < (p0.length : Int))) (
    Option.bind (ref27_Read p0 c) fun a =>
    cond (!a.2.2) (
      some (.inr (([] : List Int), (13:Int)))) <|
    ck (decide ((b.length + [a.1].length) * 8 ≤ 140737488355328)) <|
    some (.inl ((b ++ [a.1]), a.2.1))) <|
  Option.map Sum.inr (some (b, (0:Int)))


noncomputable def ref27_Numbers_l2 (p0 : (List Int)) (a : (List Int)) (b : Int) : Option ((List Int) × Int) :=
  loop (fun (s : ((List Int) × Int)) => ref27_Numbers_l2s p0 s.1 s.2) (a, b)


noncomputable def ref27_Numbers (p0 : (List Int)) : Option ((List Int) × Int) :=
  ref27_Numbers_l2 p0 ([] : List Int) (0:Int)

noncomputable def ref27_open (p0 : (List Int)) : Option ((Option ref27_Cursor) × Bool) :=
  cond (decide ((p0.length : Int) > (1048576:Int))) (
    some (none, false)) <|
  Option.bind (ref27_Numbers p0) fun a =>
  some ((some (ref27_Cursor.mk a.1 (0:Int) false)), (a.2 == (0:Int)))

noncomputable def ref27_DecodeReply (p0 : (List Int)) : Option (api_Reply × Int) :=
  Option.bind (ref27_open p0) fun b =>
  Option.elim b.1 (
    cond (!b.2) (
      some ((api_Reply.mk (0:Int) (api_Answer.mk (api_Bounds.mk (api_Ratio.mk (0:Int) (0:Int)) (api_Ratio.mk (0:Int) (0:Int)) (api_Ratio.mk (0:Int) (0:Int))) ([] : List Int) (api_Fraction.mk (api_Wide.mk (0:Int) (0:Int)) (api_Wide.mk (0:Int) (0:Int)))) ([] : List Int) ([] : List Int)), (13:Int))) <|
    none) fun z1_1 =>
  cond (!b.2) (
    some ((api_Reply.mk (0:Int) (api_Answer.mk (api_Bounds.mk (api_Ratio.mk (0:Int) (0:Int)) (api_Ratio.mk (0:Int) (0:Int)) (api_Ratio.mk (0:Int) (0:Int))) ([] : List Int) (api_Fraction.mk (api_Wide.mk (0:Int) (0:Int)) (api_Wide.mk (0:Int) (0:Int)))) ([] : List Int) ([] : List Int)), (13:Int))) <|
  Option.bind (ref27_Cursor_Take z1_1) fun f =>
  Option.bind (ref27_Cursor_ratio f.2) fun g =>
  Option.bind (ref27_Cursor_ratio g.2) fun h =>
  Option.bind (ref27_Cursor_ratio h.2) fun i =>
  Option.bind (ref27_Cursor_List i.2) fun j =>
  Option.bind (ref27_Cursor_Wide j.2) fun c =>
  Option.bind (ref27_Cursor_Wide c.2) fun d =>
  Option.bind (ref27_Cursor_List d.2) fun e =>
  Option.bind (ref27_Cursor_Bytes e.2) fun a =>
  cond (a.2.Bad || (a.2.At != (a.2.L.length : Int))) (
    some ((api_Reply.mk (0:Int) (api_Answer.mk (api_Bounds.mk (api_Ratio.mk (0:Int) (0:Int)) (api_Ratio.mk (0:Int) (0:Int)) (api_Ratio.mk (0:Int) (0:Int))) ([] : List Int) (api_Fraction.mk (api_Wide.mk (0:Int) (0:Int)) (api_Wide.mk (0:Int) (0:Int)))) ([] : List Int) ([] : List Int)), (13:Int))) <|
  some ((api_Reply.mk f.1 (api_Answer.mk (api_Bounds.mk g.1 h.1 i.1) j.1 (api_Fraction.mk c.1 d.1)) e.1 a.1), (0:Int))

noncomputable def ref30_Split_l2s (b : (List Int)) (c : (List (List Int))) : Option (((List Int) × (List (List Int))) ⊕ ((List (List Int)) × (List Int))) :=
  Option.bind (ref27_Read b (0:Int)) fun a =>
  cond ((((!a.2.2) || (decide (a.1 < (0:Int)))) || (decide (a.1 > (1048576:Int)))) || (decide (a.1 > (w64 ((b.length : Int) - a.2.1))))) (
    some (.inr (c, b))) <|
  ck (decide (0 ≤ a.2.1 ∧ a.2.1 ≤ (w64 (a.2.1 + a.1)) ∧ (w64 (a.2.1 + a.1)) ≤ (b.length : Int))) <|
  ck (decide ((c.length + [((b.take ((w64 (a.2.1 + a.1))).toNat).drop (a.2.1).toNat)].length) * 24 ≤ 140737488355328)) <|
  ck (decide (0 ≤ (w64 (a.2.1 + a.1)) ∧ (w64 (a.2.1 + a.1)) ≤ (b.length : Int))) <|
  some (.inl ((b.drop ((w64 (a.2.1 + a.1))).toNat), (c ++ [((b.take ((w64 (a.2.1 + a.1))).toNat).drop (a.2.1).toNat)])))


noncomputable def ref30_Split_l2 (a : (List Int)) (b : (List (List Int))) : Option ((List (List Int)) × (List Int)) :=
  loop (fun (s : ((List Int) × (List (List Int)))) => ref30_Split_l2s s.1 s.2) (a, b)


noncomputable def ref30_Split (p0 : (List Int)) : Option ((List (List Int)) × (List Int)) :=
  ref30_Split_l2 p0 ([] : List (List Int))

noncomputable def ref30_Replies_l3s (d : ((List (List Int)) × (List Int))) (c : (List api_Reply)) (a : Int) : Option (((List api_Reply) × Int) ⊕ ((List api_Reply) × Int)) :=
  cond (decide (a < (d.1.length : Int))) (
    Option.bind (idx d.1 a) fun e =>
    Option.bind (ref27_DecodeReply e) fun b =>
    cond (b.2 != (0:Int)) (
      some (.inr (([] : List api_Reply), b.2))) <|
    ck (decide ((c.length + [b.1].length) * 160 ≤ 140737488355328)) <|
    some (.inl ((c ++ [b.1]), (w64 (a + (1:Int)))))) <|
  Option.map Sum.inr (some (c, (0:Int)))


noncomputable def ref30_Replies_l3 (b : ((List (List Int)) × (List Int))) (c : (List api_Reply)) (a : Int) : Option ((List api_Reply) × Int) :=
  loop (fun (s : ((List api_Reply) × Int)) => ref30_Replies_l3s b s.1 s.2) (c, a)


noncomputable def ref30_Replies (p0 : (List Int)) : Option ((List api_Reply) × Int) :=
  Option.bind (ref30_Split p0) fun a =>
  cond (decide ((a.2.length : Int) > (0:Int))) (
    some (([] : List api_Reply), (13:Int))) <|
  ref30_Replies_l3 a ([] : List api_Reply) (0:Int)

noncomputable def script_Split_l2s (p0 : (List Int)) (c : (List (List Int))) (b : Int) : Option (((List (List Int)) × Int) ⊕ ((List (List Int)) × (List Int))) :=
  Option.bind (codec_Read p0 b) fun a =>
  cond ((((!a.2.2) || (decide (a.1 < (0:Int)))) || (decide (a.1 > (1048576:Int)))) || (decide (a.1 > (w64 ((p0.length : Int) - a.2.1))))) (
    ck (decide (0 ≤ b ∧ b ≤ (p0.length : Int))) <|
    ck (decide ((([] : List Int).length + (p0.drop (b).toNat).length) * 1 ≤ 140737488355328)) <|
    some (.inr (c, (([] : List Int) ++ (p0.drop (b).toNat))))) <|
  ck (decide (0 ≤ a.2.1 ∧ a.2.1 ≤ (w64 (a.2.1 + a.1)) ∧ (w64 (a.2.1 + a.1)) ≤ (p0.length : Int))) <|
  ck (decide ((([] : List Int).length + ((p0.take ((w64 (a.2.1 + a.1))).toNat).drop (a.2.1).toNat).length) * 1 ≤ 140737488355328)) <|
  ck (decide ((c.length + [(([] : List Int) ++ ((p0.take ((w64 (a.2.1 + a.1))).toNat).drop (a.2.1).toNat))].length) * 24 ≤ 140737488355328)) <|
  some (.inl ((c ++ [(([] : List Int) ++ ((p0.take ((w64 (a.2.1 + a.1))).toNat).drop (a.2.1).toNat))]), (w64 (a.2.1 + a.1))))


noncomputable def script_Split_l2 (p0 : (List Int)) (a : (List (List Int))) (b : Int) : Option ((List (List Int)) × (List Int)) :=
  loop (fun (s : ((List (List Int)) × Int)) => script_Split_l2s p0 s.1 s.2) (a, b)


noncomputable def script_Split (p0 : (List Int)) : Option ((List (List Int)) × (List Int)) :=
  script_Split_l2 p0 ([] : List (List Int)) (0:Int)

noncomputable def script_Replies_l3s (d : ((List (List Int)) × (List Int))) (c : (List api_Reply)) (a : Int) : Option (((List api_Reply) × Int) ⊕ ((List api_Reply) × Int)) :=
  cond (decide (a < (d.1.length : Int))) (
    Option.bind (idx d.1 a) fun e =>
    Option.bind (codec_DecodeReply e) fun b =>
    cond (b.2 != (0:Int)) (
      some (.inr (([] : List api_Reply), b.2))) <|
    ck (decide ((c.length + [b.1].length) * 160 ≤ 140737488355328)) <|
    some (.inl ((c ++ [b.1]), (w64 (a + (1:Int)))))) <|
  Option.map Sum.inr (some (c, (0:Int)))


noncomputable def script_Replies_l3 (b : ((List (List Int)) × (List Int))) (c : (List api_Reply)) (a : Int) : Option ((List api_Reply) × Int) :=
  loop (fun (s : ((List api_Reply) × Int)) => script_Replies_l3s b s.1 s.2) (c, a)


noncomputable def script_Replies (p0 : (List Int)) : Option ((List api_Reply) × Int) :=
  Option.bind (script_Split p0) fun a =>
  cond (decide ((a.2.length : Int) > (0:Int))) (
    some (([] : List api_Reply), (13:Int))) <|
  script_Replies_l3 a ([] : List api_Reply) (0:Int)

noncomputable def law30_ScriptReplies_l4s (b : ((List api_Reply) × Int)) (g : ((List api_Reply) × Int)) (a : Int) : Option (Int ⊕ Bool) :=
  cond (decide (a < (b.1.length : Int))) (
    Option.bind (idx b.1 a) fun c =>
    Option.bind (idx g.1 a) fun d =>
    Option.bind (ref27_SameReply c d) fun e =>
    cond (!e) (
      some (.inr false)) <|
    some (.inl (w64 (a + (1:Int))))) <|
  Option.map Sum.inr (Option.bind law30_awake fun f =>
  some f)


noncomputable def law30_ScriptReplies_l4 (b : ((List api_Reply) × Int)) (c : ((List api_Reply) × Int)) (a : Int) : Option Bool :=
  loop (fun (s : Int) => law30_ScriptReplies_l4s b c s) a


noncomputable def law30_ScriptReplies (p0 : (List Int)) : Option Bool :=
  cond (decide ((p0.length : Int) > (3000:Int))) (
    Option.bind law30_awake fun c =>
    some c) <|
  Option.bind (script_Replies p0) fun a =>
  Option.bind (ref30_Replies p0) fun b =>
  cond ((a.2 != b.2) || ((a.1.length : Int) != (b.1.length : Int))) (
    some false) <|
  law30_ScriptReplies_l4 a b (0:Int)

noncomputable def ref27_Append_l3s (a : Int) (b : (List Int)) : Option ((Int × (List Int)) ⊕ (List Int)) :=
  cond (decide (a ≥ (128:Int))) (
    ck (decide ((b.length + [(ior .u8 (IntKind.u8.wrap (iand .u64 a (127:Int))) (128:Int))].length) * 1 ≤ 140737488355328)) <|
    some (.inl ((ishr .u64 a (7:Int)), (b ++ [(ior .u8 (IntKind.u8.wrap (iand .u64 a (127:Int))) (128:Int))])))) <|
  Option.map Sum.inr (ck (decide ((b.length + [(IntKind.u8.wrap a)].length) * 1 ≤ 140737488355328)) <|
  some (b ++ [(IntKind.u8.wrap a)]))


noncomputable def ref27_Append_l3 (a : Int) (b : (List Int)) : Option (List Int) :=
  loop (fun (s : (Int × (List Int))) => ref27_Append_l3s s.1 s.2) (a, b)


noncomputable def ref27_Append_j1 (p0 : (List Int)) (a : Int) : Option (List Int) :=
  ck (decide ((([] : List Int).length + p0.length) * 1 ≤ 140737488355328)) <|
  ref27_Append_l3 a (([] : List Int) ++ p0)


noncomputable def ref27_Append (p0 : (List Int)) (p1 : Int) : Option (List Int) :=
  cond (decide (p1 < (0:Int))) (
    ref27_Append_j1 p0 (inot .u64 (ishl .u64 (wu64 p1) (1:Int)))) <|
  ref27_Append_j1 p0 (ishl .u64 (wu64 p1) (1:Int))

noncomputable def ref27_Cursor_Config (p0 : ref27_Cursor) : Option (api_Config × ref27_Cursor) :=
  Option.bind (ref27_Cursor_Take p0) fun a =>
  Option.bind (ref27_Cursor_Take a.2) fun b =>
  Option.bind (ref27_Cursor_Take b.2) fun c =>
  Option.bind (ref27_Cursor_Take c.2) fun d =>
  Option.bind (ref27_Cursor_Take d.2) fun e =>
  Option.bind (ref27_Cursor_Take e.2) fun f =>
  Option.bind (ref27_Cursor_Take f.2) fun g =>
  Option.bind (ref27_Cursor_Take g.2) fun h =>
  some ((api_Config.mk a.1 b.1 c.1 d.1 e.1 f.1 g.1 h.1), h.2)

end Go.Win
