/- The functions of the program and of the statements, as functions on plain data: made by program out of the translated code. -/
import Derived.Test.YtmipeaidieflmaaVc
set_option linter.unusedVariables false
namespace Go.Win
open Go.Vc Go.Dec

structure api_Config where
  Kind : Int
  Agg : Int
  W : Int
  K : Int
  Cap : Int
  P : Int
  Chains : Int
  Max : Int
  deriving Inhabited
def enc_api_Config (p : api_Config) : List AV := [.int .i64 p.Kind, .int .i64 p.Agg, .int .i64 p.W, .int .i64 p.K, .int .i64 p.Cap, .int .i64 p.P, .int .i64 p.Chains, .int .i64 p.Max]
def wf_api_Config (p : api_Config) : Prop := (wfI .i64) p.Kind ∧ (wfI .i64) p.Agg ∧ (wfI .i64) p.W ∧ (wfI .i64) p.K ∧ (wfI .i64) p.Cap ∧ (wfI .i64) p.P ∧ (wfI .i64) p.Chains ∧ (wfI .i64) p.Max
def wfU_api_Config (p : api_Config) : Prop := (wfI .i64) p.Kind ∧ (wfI .i64) p.Agg ∧ (wfI .i64) p.W ∧ (wfI .i64) p.K ∧ (wfI .i64) p.Cap ∧ (wfI .i64) p.P ∧ (wfI .i64) p.Chains ∧ (wfI .i64) p.Max

structure api_Query where
  Op : Int
  A : Int
  B : Int
  deriving Inhabited
def enc_api_Query (p : api_Query) : List AV := [.int .i64 p.Op, .int .i64 p.A, .int .i64 p.B]
def wf_api_Query (p : api_Query) : Prop := (wfI .i64) p.Op ∧ (wfI .i64) p.A ∧ (wfI .i64) p.B
def wfU_api_Query (p : api_Query) : Prop := (wfI .i64) p.Op ∧ (wfI .i64) p.A ∧ (wfI .i64) p.B

structure api_Command where
  Op : Int
  ID : Int
  Config : api_Config
  T : Int
  V : Int
  Draws : (List Int)
  Query : api_Query
  Bytes : (List Int)
  deriving Inhabited
def enc_api_Command (p : api_Command) : List AV := [.int .i64 p.Op, .int .i64 p.ID, .int .i64 p.Config.Kind, .int .i64 p.Config.Agg, .int .i64 p.Config.W, .int .i64 p.Config.K, .int .i64 p.Config.Cap, .int .i64 p.Config.P, .int .i64 p.Config.Chains, .int .i64 p.Config.Max, .int .i64 p.T, .int .i64 p.V, .lst 1 false (List.map (eI .i64) p.Draws), .int .i64 p.Query.Op, .int .i64 p.Query.A, .int .i64 p.Query.B, .lst 1 false (List.map (eI .u8) p.Bytes)]
def wf_api_Command (p : api_Command) : Prop := (wfI .i64) p.Op ∧ (wfI .i64) p.ID ∧ wf_api_Config p.Config ∧ (wfI .i64) p.T ∧ (wfI .i64) p.V ∧ (wfL (wfI .i64)) p.Draws ∧ wf_api_Query p.Query ∧ (wfL (wfI .u8)) p.Bytes
def wfU_api_Command (p : api_Command) : Prop := (wfI .i64) p.Op ∧ (wfI .i64) p.ID ∧ wfU_api_Config p.Config ∧ (wfI .i64) p.T ∧ (wfI .i64) p.V ∧ (wfLU (wfI .i64)) p.Draws ∧ wfU_api_Query p.Query ∧ (wfLU (wfI .u8)) p.Bytes

structure tape_Tape where
  Bytes : (List Int)
  At : Int
  Reading : Bool
  Bad : Bool
  deriving Inhabited
def enc_tape_Tape (p : tape_Tape) : List AV := [.lst 1 false (List.map (eI .u8) p.Bytes), .int .i64 p.At, .sb p.Reading, .sb p.Bad]
def wf_tape_Tape (p : tape_Tape) : Prop := (wfL (wfI .u8)) p.Bytes ∧ (wfI .i64) p.At ∧ (fun _ : Bool => True) p.Reading ∧ (fun _ : Bool => True) p.Bad
def wfU_tape_Tape (p : tape_Tape) : Prop := (wfLU (wfI .u8)) p.Bytes ∧ (wfI .i64) p.At ∧ (fun _ : Bool => True) p.Reading ∧ (fun _ : Bool => True) p.Bad

noncomputable def tape_Append_i3_l3s (b : (List Int)) (a : Int) : Option (((List Int) × Int) ⊕ (List Int)) :=
  cond (decide (a ≥ (128:Int))) (
    ck (decide ((b.length + [(ior .u8 (IntKind.u8.wrap a) (128:Int))].length) * 1 ≤ 140737488355328)) <|
    some (.inl ((b ++ [(ior .u8 (IntKind.u8.wrap a) (128:Int))]), (ishr .u64 a (7:Int))))) <|
  Option.map Sum.inr (ck (decide ((b.length + [(IntKind.u8.wrap a)].length) * 1 ≤ 140737488355328)) <|
  some (b ++ [(IntKind.u8.wrap a)]))


noncomputable def tape_Append_i3_l3 (a : (List Int)) (b : Int) : Option (List Int) :=
  loop (fun (s : ((List Int) × Int)) => tape_Append_i3_l3s s.1 s.2) (a, b)


noncomputable def tape_Append_i3_j1 (p0 : (List Int)) (a : Int) : Option (List Int) :=
  tape_Append_i3_l3 p0 a


noncomputable def tape_Append_i3 (p0 : (List Int)) (p1 : Int) : Option (List Int) :=
  cond (decide (p1 < (0:Int))) (
    tape_Append_i3_j1 p0 (inot .u64 (ishl .u64 (wu64 p1) (1:Int)))) <|
  tape_Append_i3_j1 p0 (ishl .u64 (wu64 p1) (1:Int))

noncomputable def codec_Append_i1 (p0 : (List Int)) (p1 : Int) : Option (List Int) :=
  ck (decide ((([] : List Int).length + p0.length) * 1 ≤ 140737488355328)) <|
  Option.bind (tape_Append_i3 (([] : List Int) ++ p0) p1) fun a =>
  some a

noncomputable def tape_Tape_Int_i3 (b0_0 : (List Int)) (b0_1 : Int) (b1 : Int) : Option (List Int) :=
  Option.bind (tape_Append_i3 b0_0 b1) fun a =>
  some a

noncomputable def tape_Tape_Small_i3 (b0_0 : (List Int)) (b0_1 : Int) (b1 : Int) : Option (List Int) :=
  Option.bind (tape_Tape_Int_i3 b0_0 b0_1 b1) fun a =>
  some a

noncomputable def tape_Tape_Config_i1 (b0_0 : (List Int)) (b0_1 : Int) (b1 : api_Config) : Option (List Int) :=
  Option.bind (tape_Tape_Small_i3 b0_0 b0_1 b1.Kind) fun a =>
  Option.bind (tape_Tape_Small_i3 a b0_1 b1.Agg) fun b =>
  Option.bind (tape_Tape_Int_i3 b b0_1 b1.W) fun c =>
  Option.bind (tape_Tape_Small_i3 c b0_1 b1.K) fun d =>
  Option.bind (tape_Tape_Small_i3 d b0_1 b1.Cap) fun e =>
  Option.bind (tape_Tape_Small_i3 e b0_1 b1.P) fun f =>
  Option.bind (tape_Tape_Small_i3 f b0_1 b1.Chains) fun g =>
  Option.bind (tape_Tape_Int_i3 g b0_1 b1.Max) fun h =>
  some h

noncomputable def tape_Tape_Within_i2 (p2 : Int) (p3 : Int) (b0_0 : (List Int)) (b0_1 : Int) (b1 : Int) : Option (List Int) :=
  Option.bind (tape_Tape_Int_i3 b0_0 b0_1 b1) fun a =>
  some a

noncomputable def tape_List_int64__i3_l3s (b0_1 : Int) (b1 : (List Int)) (b : Int) (a : (List Int)) : Option ((Int × (List Int)) ⊕ (List Int)) :=
  cond (decide (b < (b1.length : Int))) (
    Option.bind (idx b1 b) fun c =>
    Option.bind (tape_Tape_Int_i3 a b0_1 c) fun d =>
    some (.inl ((w64 (b + (1:Int))), d))) <|
  Option.map Sum.inr (some a)


noncomputable def tape_List_int64__i3_l3 (b0_1 : Int) (b1 : (List Int)) (b : Int) (a : (List Int)) : Option (List Int) :=
  loop (fun (s : (Int × (List Int))) => tape_List_int64__i3_l3s b0_1 b1 s.1 s.2) (b, a)


noncomputable def tape_List_int64__i3 (b0_0 : (List Int)) (b0_1 : Int) (b1 : (List Int)) : Option (List Int) :=
  Option.bind (tape_Tape_Within_i2 (0:Int) (w64 ((b0_0.length : Int) - b0_1)) b0_0 b0_1 (b1.length : Int)) fun a =>
  tape_List_int64__i3_l3 b0_1 b1 (0:Int) a

noncomputable def tape_Tape_Ints_i1 (b0_0 : (List Int)) (b0_1 : Int) (b1 : (List Int)) : Option (List Int) :=
  Option.bind (tape_List_int64__i3 b0_0 b0_1 b1) fun a =>
  some a

noncomputable def tape_Append_i2_l3s (b : (List Int)) (a : Int) : Option (((List Int) × Int) ⊕ (List Int)) :=
  cond (decide (a ≥ (128:Int))) (
    ck (decide ((b.length + [(ior .u8 (IntKind.u8.wrap a) (128:Int))].length) * 1 ≤ 140737488355328)) <|
    some (.inl ((b ++ [(ior .u8 (IntKind.u8.wrap a) (128:Int))]), (ishr .u64 a (7:Int))))) <|
  Option.map Sum.inr (ck (decide ((b.length + [(IntKind.u8.wrap a)].length) * 1 ≤ 140737488355328)) <|
  some (b ++ [(IntKind.u8.wrap a)]))


noncomputable def tape_Append_i2_l3 (a : (List Int)) (b : Int) : Option (List Int) :=
  loop (fun (s : ((List Int) × Int)) => tape_Append_i2_l3s s.1 s.2) (a, b)


noncomputable def tape_Append_i2_j1 (a : Int) : Option (List Int) :=
  tape_Append_i2_l3 ([] : List Int) a


noncomputable def tape_Append_i2 (p1 : Int) : Option (List Int) :=
  cond (decide (p1 < (0:Int))) (
    tape_Append_i2_j1 (inot .u64 (ishl .u64 (wu64 p1) (1:Int)))) <|
  tape_Append_i2_j1 (ishl .u64 (wu64 p1) (1:Int))

noncomputable def tape_Tape_Int_i2 (b0_1 : Int) (b1 : Int) : Option (List Int) :=
  Option.bind (tape_Append_i2 b1) fun a =>
  some a

noncomputable def tape_Tape_Small_i2 (b0_1 : Int) (b1 : Int) : Option (List Int) :=
  Option.bind (tape_Tape_Int_i2 b0_1 b1) fun a =>
  some a

noncomputable def tape_Tape_Text_1_i1 (b0 : Int) (b2_0 : (List Int)) (b2_1 : Int) : Option (Int × (List Int)) :=
  Option.bind (tape_Tape_Within_i2 (0:Int) (255:Int) b2_0 b2_1 (w64 b0)) fun a =>
  some ((IntKind.u8.wrap (w64 b0)), a)

noncomputable def tape_List_byte__i3_l3s (b0_1 : Int) (b1 : (List Int)) (b : Int) (a : (List Int)) : Option ((Int × (List Int)) ⊕ (List Int)) :=
  cond (decide (b < (b1.length : Int))) (
    Option.bind (idx b1 b) fun c =>
    Option.bind (tape_Tape_Text_1_i1 c a b0_1) fun d =>
    some (.inl ((w64 (b + (1:Int))), d.2))) <|
  Option.map Sum.inr (some a)


noncomputable def tape_List_byte__i3_l3 (b0_1 : Int) (b1 : (List Int)) (b : Int) (a : (List Int)) : Option (List Int) :=
  loop (fun (s : (Int × (List Int))) => tape_List_byte__i3_l3s b0_1 b1 s.1 s.2) (b, a)


noncomputable def tape_List_byte__i3 (b0_0 : (List Int)) (b0_1 : Int) (b1 : (List Int)) : Option (List Int) :=
  Option.bind (tape_Tape_Within_i2 (0:Int) (w64 ((b0_0.length : Int) - b0_1)) b0_0 b0_1 (b1.length : Int)) fun a =>
  tape_List_byte__i3_l3 b0_1 b1 (0:Int) a

noncomputable def tape_Tape_Text_i1 (b0_0 : (List Int)) (b0_1 : Int) (b1 : (List Int)) : Option (List Int) :=
  Option.bind (tape_List_byte__i3 b0_0 b0_1 b1) fun a =>
  some a

noncomputable def codec_command_i1 (b0_1 : Int) (b1 : api_Command) : Option (List Int) :=
  Option.bind (tape_Tape_Small_i2 b0_1 b1.Op) fun a =>
  Option.bind (tape_Tape_Int_i3 a b0_1 b1.ID) fun b =>
  Option.bind (tape_Tape_Config_i1 b b0_1 b1.Config) fun c =>
  Option.bind (tape_Tape_Int_i3 c b0_1 b1.T) fun d =>
  Option.bind (tape_Tape_Int_i3 d b0_1 b1.V) fun e =>
  Option.bind (tape_Tape_Ints_i1 e b0_1 b1.Draws) fun f =>
  Option.bind (tape_Tape_Small_i3 f b0_1 b1.Query.Op) fun g =>
  Option.bind (tape_Tape_Int_i3 g b0_1 b1.Query.A) fun h =>
  Option.bind (tape_Tape_Int_i3 h b0_1 b1.Query.B) fun i =>
  Option.bind (tape_Tape_Text_i1 i b0_1 b1.Bytes) fun j =>
  some j

noncomputable def codec_written (p0 : tape_Tape) : ((List Int) × Int) :=
  cond (decide ((p0.Bytes.length : Int) > (1048576:Int))) (
    (([] : List Int), (5:Int))) <|
  (p0.Bytes, (0:Int))

noncomputable def codec_EncodeCommand (p0 : api_Command) : Option ((List Int) × Int) :=
  Option.bind (codec_command_i1 (0:Int) p0) fun b =>
  let a := (codec_written (tape_Tape.mk b (0:Int) false false));
  some (a.1, a.2)

noncomputable def tape_Read_l3s (p0 : (List Int)) (p1 : Int) (c : Int) (a : Int) : Option ((Int × Int) ⊕ (Int × Int × Bool)) :=
  cond ((decide (a < (10:Int))) && (decide ((w64 (p1 + a)) < (p0.length : Int)))) (
    Option.bind (idx p0 (w64 (p1 + a))) fun b =>
    cond ((a == (9:Int)) && (decide (b > (1:Int)))) (
      some (.inr ((0:Int), (0:Int), false))) <|
    ck (decide (0 ≤ (wu64 (w64 ((7:Int) * a))))) <|
    cond (decide (b ≥ (128:Int))) (
      some (.inl ((ior .u64 c (ishl .u64 (wu64 (iand .u8 b (127:Int))) (wu64 (w64 ((7:Int) * a))))), (w64 (a + (1:Int)))))) <|
    cond ((b == (0:Int)) && (decide (a > (0:Int)))) (
      some (.inr ((0:Int), (0:Int), false))) <|
    cond ((iand .u64 (ior .u64 c (ishl .u64 (wu64 (iand .u8 b (127:Int))) (wu64 (w64 ((7:Int) * a))))) (1:Int)) == (1:Int)) (
      some (.inr ((inot .i64 (w64 (ishr .u64 (ior .u64 c (ishl .u64 (wu64 (iand .u8 b (127:Int))) (wu64 (w64 ((7:Int) * a))))) (1:Int)))), (w64 ((w64 (p1 + a)) + (1:Int))), true))) <|
    some (.inr ((w64 (ishr .u64 (ior .u64 c (ishl .u64 (wu64 (iand .u8 b (127:Int))) (wu64 (w64 ((7:Int) * a))))) (1:Int))), (w64 ((w64 (p1 + a)) + (1:Int))), true))) <|
  Option.map Sum.inr (some ((0:Int), (0:Int), false))


noncomputable def tape_Read_l3 (p0 : (List Int)) (p1 : Int) (a : Int) (b : Int) : Option (Int × Int × Bool) :=
  loop (fun (s : (Int × Int)) => tape_Read_l3s p0 p1 s.1 s.2) (a, b)


noncomputable def tape_Read (p0 : (List Int)) (p1 : Int) : Option (Int × Int × Bool) :=
  cond ((decide (p1 < (0:Int))) || (decide (p1 > (p0.length : Int)))) (
    some ((0:Int), (0:Int), false)) <|
  tape_Read_l3 p0 p1 (0:Int) (0:Int)

noncomputable def codec_Read (p0 : (List Int)) (p1 : Int) : Option (Int × Int × Bool) :=
  Option.bind (tape_Read p0 p1) fun a =>
  some (a.1, a.2.1, a.2.2)

noncomputable def script_frame (p0 : (List Int)) (p1 : (List Int)) : Option (List Int) :=
  Option.bind (codec_Append_i1 p0 (p1.length : Int)) fun a =>
  ck (decide ((a.length + p1.length) * 1 ≤ 140737488355328)) <|
  some (a ++ p1)

noncomputable def script_Join_l2s (p0 : (List api_Command)) (c : (List Int)) (a : Int) : Option (((List Int) × Int) ⊕ ((List Int) × Int)) :=
  cond (decide (a < (p0.length : Int))) (
    Option.bind (idx p0 a) fun d =>
    Option.bind (codec_EncodeCommand d) fun b =>
    cond (b.2 != (0:Int)) (
      some (.inr (([] : List Int), b.2))) <|
    Option.bind (script_frame c b.1) fun e =>
    some (.inl (e, (w64 (a + (1:Int)))))) <|
  Option.map Sum.inr (some (c, (0:Int)))


noncomputable def script_Join_l2 (p0 : (List api_Command)) (b : (List Int)) (a : Int) : Option ((List Int) × Int) :=
  loop (fun (s : ((List Int) × Int)) => script_Join_l2s p0 s.1 s.2) (b, a)


noncomputable def script_Join (p0 : (List api_Command)) : Option ((List Int) × Int) :=
  script_Join_l2 p0 ([] : List Int) (0:Int)

noncomputable def law30_awake : Option Bool :=
  Option.bind (script_Join [(api_Command.mk (6:Int) (0:Int) (api_Config.mk (0:Int) (0:Int) (0:Int) (0:Int) (0:Int) (0:Int) (0:Int) (0:Int)) (0:Int) (0:Int) ([] : List Int) (api_Query.mk (0:Int) (0:Int) (0:Int)) ([] : List Int))]) fun a =>
  Option.bind (gd ((a.2 == (0:Int)) && ((a.1.length : Int) == (18:Int))) (idx a.1 (0:Int))) fun b =>
  Option.bind (gd (((a.2 == (0:Int)) && ((a.1.length : Int) == (18:Int))) && (b == (34:Int))) (idx a.1 (1:Int))) fun c =>
  some ((((a.2 == (0:Int)) && ((a.1.length : Int) == (18:Int))) && (b == (34:Int))) && (c == (12:Int)))

noncomputable def ref27_Read_l3s (p0 : (List Int)) (p1 : Int) (c : Int) (a : Int) : Option ((Int × Int) ⊕ (Int × Int × Bool)) :=
  cond ((decide (a < (10:Int))) && (decide ((w64 (p1 + a)) < (p0.length : Int)))) (
    Option.bind (idx p0 (w64 (p1 + a))) fun b =>
    cond ((a == (9:Int)) && (decide (b > (1:Int)))) (
      some (.inr ((0:Int), (0:Int), false))) <|
    ck (decide (0 ≤ (wu64 (w64 ((7:Int) * a))))) <|
    cond (decide (b ≥ (128:Int))) (
      some (.inl ((ior .u64 c (ishl .u64 (wu64 (iand .u8 b (127:Int))) (wu64 (w64 ((7:Int) * a))))), (w64 (a + (1:Int)))))) <|
    cond ((b == (0:Int)) && (decide (a > (0:Int)))) (
      some (.inr ((0:Int), (0:Int), false))) <|
    cond ((iand .u64 (ior .u64 c (ishl .u64 (wu64 (iand .u8 b (127:Int))) (wu64 (w64 ((7:Int) * a))))) (1:Int)) == (1:Int)) (
      some (.inr ((w64 ((IntKind.i64.wrap (0 - (w64 (ishr .u64 (ior .u64 c (ishl .u64 (wu64 (iand .u8 b (127:Int))) (wu64 (w64 ((7:Int) * a))))) (1:Int))))) - (1:Int))), (w64 ((w64 (p1 + a)) + (1:Int))), true))) <|
    some (.inr ((w64 (ishr .u64 (ior .u64 c (ishl .u64 (wu64 (iand .u8 b (127:Int))) (wu64 (w64 ((7:Int) * a))))) (1:Int))), (w64 ((w64 (p1 + a)) + (1:Int))), true))) <|
  Option.map Sum.inr (some ((0:Int), (0:Int), false))


noncomputable def ref27_Read_l3 (p0 : (List Int)) (p1 : Int) (a : Int) (b : Int) : Option (Int × Int × Bool) :=
  loop (fun (s : (Int × Int)) => ref27_Read_l3s p0 p1 s.1 s.2) (a, b)


noncomputable def ref27_Read (p0 : (List Int)) (p1 : Int) : Option (Int × Int × Bool) :=
  cond ((decide (p1 < (0:Int))) || (decide (p1 > (p0.length : Int)))) (
    some ((0:Int), (0:Int), false)) <|
  ref27_Read_l3 p0 p1 (0:Int) (0:Int)

noncomputable def ref30_Split_l2s (b : (List Int)) (c : (List (List Int))) : Option (((List Int) × (List (List Int))) ⊕ ((List (List Int)) × (List Int))) :=
  Option.bind (ref27_Read b (0:Int)) fun a =>
  cond ((((!a.2.2) || (decide (a.1 < (0:Int)))) || (decide (a.1 > (1048576:Int)))) || (decide (a.1 > (w64 ((b.length : Int) - a.2.1))))) (
    some (.inr (c, b))) <|
  ck (decide (0 ≤ a.2.1 ∧ a.2.1 ≤ (w64 (a.2.1 + a.1)) ∧ (w64 (a.2.1 + a.1)) ≤ (b.length : Int))) <|
  ck (decide ((c.length + [((b.take ((w64 (a.2.1 + a.1))).toNat).drop (a.2.1).toNat)].length) * 24 ≤ 140737488355328)) <|
  ck (decide (0 ≤ (w64 (a.2.1 + a.1)) ∧ (w64 (a.2.1 + a.1)) ≤ (b.length : Int))) <|
  some (.inl ((b.drop ((w64 (a.2.1 + a.1))).toNat), (c ++ [((b.take ((w64 (a.2.1 + a.1))).toNat).drop (a.2.1).toNat)])))


noncomputable def ref30_Split_l2 (a : (List Int)) (b : (List (List Int))) : Option ((List (List Int)) × (List Int)) :=
  loop (fun (s : ((List Int) × (List (List Int)))) => ref30_Split_l2s s.1 s.2) (a, b)


noncomputable def ref30_Split (p0 : (List Int)) : Option ((List (List Int)) × (List Int)) :=
  ref30_Split_l2 p0 ([] : List (List Int))

noncomputable def script_Split_l2s (p0 : (List Int)) (c : (List (List Int))) (b : Int) : Option (((List (List Int)) × Int) ⊕ ((List (List Int)) × (List Int))) :=
  Option.bind (codec_Read p0 b) fun a =>
  cond ((((!a.2.2) || (decide (a.1 < (0:Int)))) || (decide (a.1 > (1048576:Int)))) || (decide (a.1 > (w64 ((p0.length : Int) - a.2.1))))) (
    ck (decide (0 ≤ b ∧ b ≤ (p0.length : Int))) <|
    ck (decide ((([] : List Int).length + (p0.drop (b).toNat).length) * 1 ≤ 140737488355328)) <|
    some (.inr (c, (([] : List Int) ++ (p0.drop (b).toNat))))) <|
  ck (decide (0 ≤ a.2.1 ∧ a.2.1 ≤ (w64 (a.2.1 + a.1)) ∧ (w64 (a.2.1 + a.1)) ≤ (p0.length : Int))) <|
  ck (decide ((([] : List Int).length + ((p0.take ((w64 (a.2.1 + a.1))).toNat).drop (a.2.1).toNat).length) * 1 ≤ 140737488355328)) <|
  ck (decide ((c.length + [(([] : List Int) ++ ((p0.take ((w64 (a.2.1 + a.1))).toNat).drop (a.2.1).toNat))].length) * 24 ≤ 140737488355328)) <|
  some (.inl ((c ++ [(([] : List Int) ++ ((p0.take ((w64 (a.2.1 + a.1))).toNat).drop (a.2.1).toNat))]), (w64 (a.2.1 + a.1))))


noncomputable def script_Split_l2 (p0 : (List Int)) (a : (List (List Int))) (b : Int) : Option ((List (List Int)) × (List Int)) :=
  loop (fun (s : ((List (List Int)) × Int)) => script_Split_l2s p0 s.1 s.2) (a, b)


noncomputable def script_Split (p0 : (List Int)) : Option ((List (List Int)) × (List Int)) :=
  script_Split_l2 p0 ([] : List (List Int)) (0:Int)

noncomputable def law30_ScriptSplits_l4s (b : ((List (List Int)) × (List Int))) (g : ((List (List Int)) × (List Int))) (a : Int) : Option (Int ⊕ Bool) :=
  cond (decide (a < (b.1.length : Int))) (
    Option.bind (idx b.1 a) fun c =>
    Option.bind (idx g.1 a) fun d =>
    Option.bind (ref27_SameBytes c d) fun e =>
    cond (!e) (
      some (.inr false)) <|
    some (.inl (w64 (a + (1:Int))))) <|
  Option.map Sum.inr (Option.bind law30_awake fun f =>
  some f)


noncomputable def law30_ScriptSplits_l4 (b : ((List (List Int)) × (List Int))) (c : ((List (List Int)) × (List Int))) (a : Int) : Option Bool :=
  loop (fun (s : Int) => law30_ScriptSplits_l4s b c s) a


noncomputable def law30_ScriptSplits (p0 : (List Int)) : Option Bool :=
  cond (decide ((p0.length : Int) > (3000:Int))) (
    Option.bind law30_awake fun c =>
    some c) <|
  Option.bind (script_Split p0) fun a =>
  Option.bind (ref30_Split p0) fun b =>
  Option.bind (gd (!((a.1.length : Int) != (b.1.length : Int))) (ref27_SameBytes a.2 b.2)) fun d =>
  cond (((a.1.length : Int) != (b.1.length : Int)) || (!d)) (
    some false) <|
  law30_ScriptSplits_l4 a b (0:Int)

noncomputable def ref27_Append_l3s (a : Int) (b : (List Int)) : Option ((Int × (List Int)) ⊕ (List Int)) :=
  cond (decide (a ≥ (128:Int))) (
    ck (decide ((b.length + [(ior .u8 (IntKind.u8.wrap (iand .u64 a (127:Int))) (128:Int))].length) * 1 ≤ 140737488355328)) <|
    some (.inl ((ishr .u64 a (7:Int)), (b ++ [(ior .u8 (IntKind.u8.wrap (iand .u64 a (127:Int))) (128:Int))])))) <|
  Option.map Sum.inr (ck (decide ((b.length + [(IntKind.u8.wrap a)].length) * 1 ≤ 140737488355328)) <|
  some (b ++ [(IntKind.u8.wrap a)]))


noncomputable def ref27_Append_l3 (a : Int) (b : (List Int)) : Option (List Int) :=
  loop (fun (s : (Int × (List Int))) => ref27_Append_l3s s.1 s.2) (a, b)


noncomputable def ref27_Append_j1 (p0 : (List Int)) (a : Int) : Option (List Int) :=
  ck (decide ((([] : List Int).length + p0.length) * 1 ≤ 140737488355328)) <|
  ref27_Append_l3 a (([] : List Int) ++ p0)


noncomputable def ref27_Append (p0 : (List Int)) (p1 : Int) : Option (List Int) :=
  cond (decide (p1 < (0:Int))) (
    ref27_Append_j1 p0 (inot .u64 (ishl .u64 (wu64 p1) (1:Int)))) <|
  ref27_Append_j1 p0 (ishl .u64 (wu64 p1) (1:Int))

end Go.Win
