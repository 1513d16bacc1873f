/- The functions of the program and of the statements, as functions on plain data: made by program out of the translated code. -/
import Derived.Test.YtmipeaidieflmaaVc
set_option linter.unusedVariables false
namespace Go.Win
open Go.Vc Go.Dec

structure api_Config where
  Kind : Int
  Agg : Int
  W : Int
  K : Int
  Cap : Int
  P : Int
  Chains : Int
  Max : Int
  deriving Inhabited
def enc_api_Config (p : api_Config) : List AV := [.int .i64 p.Kind, .int .i64 p.Agg, .int .i64 p.W, .int .i64 p.K, .int .i64 p.Cap, .int .i64 p.P, .int .i64 p.Chains, .int .i64 p.Max]
def wf_api_Config (p : api_Config) : Prop := (wfI .i64) p.Kind ∧ (wfI .i64) p.Agg ∧ (wfI .i64) p.W ∧ (wfI .i64) p.K ∧ (wfI .i64) p.Cap ∧ (wfI .i64) p.P ∧ (wfI .i64) p.Chains ∧ (wfI .i64) p.Max
def wfU_api_Config (p : api_Config) : Prop := (wfI .i64) p.Kind ∧ (wfI .i64) p.Agg ∧ (wfI .i64) p.W ∧ (wfI .i64) p.K ∧ (wfI .i64) p.Cap ∧ (wfI .i64) p.P ∧ (wfI .i64) p.Chains ∧ (wfI .i64) p.Max

structure api_Query where
  Op : Int
  A : Int
  B : Int
  deriving Inhabited
def enc_api_Query (p : api_Query) : List AV := [.int .i64 p.Op, .int .i64 p.A, .int .i64 p.B]
def wf_api_Query (p : api_Query) : Prop := (wfI .i64) p.Op ∧ (wfI .i64) p.A ∧ (wfI .i64) p.B
def wfU_api_Query (p : api_Query) : Prop := (wfI .i64) p.Op ∧ (wfI .i64) p.A ∧ (wfI .i64) p.B

structure api_Command where
  Op : Int
  ID : Int
  Config : api_Config
  T : Int
  V : Int
  Draws : (List Int)
  Query : api_Query
  Bytes : (List Int)
  deriving Inhabited
def enc_api_Command (p : api_Command) : List AV := [.int .i64 p.Op, .int .i64 p.ID, .int .i64 p.Config.Kind, .int .i64 p.Config.Agg, .int .i64 p.Config.W, .int .i64 p.Config.K, .int .i64 p.Config.Cap, .int .i64 p.Config.P, .int .i64 p.Config.Chains, .int .i64 p.Config.Max, .int .i64 p.T, .int .i64 p.V, .lst 1 false (List.map (eI .i64) p.Draws), .int .i64 p.Query.Op, .int .i64 p.Query.A, .int .i64 p.Query.B, .lst 1 false (List.map (eI .u8) p.Bytes)]
def wf_api_Command (p : api_Command) : Prop := (wfI .i64) p.Op ∧ (wfI .i64) p.ID ∧ wf_api_Config p.Config ∧ (wfI .i64) p.T ∧ (wfI .i64) p.V ∧ (wfL (wfI .i64)) p.Draws ∧ wf_api_Query p.Query ∧ (wfL (wfI .u8)) p.Bytes
def wfU_api_Command (p : api_Command) : Prop := (wfI .i64) p.Op ∧ (wfI .i64) p.ID ∧ wfU_api_Config p.Config ∧ (wfI .i64) p.T ∧ (wfI .i64) p.V ∧ (wfLU (wfI .i64)) p.Draws ∧ wfU_api_Query p.Query ∧ (wfLU (wfI .u8)) p.Bytes

structure tape_Tape where
  Bytes : (List Int)
  At : Int
  Reading : Bool
  Bad : Bool
  deriving Inhabited
def enc_tape_Tape (p : tape_Tape) : List AV := [.lst 1 false (List.map (eI .u8) p.Bytes), .int .i64 p.At, .sb p.Reading, .sb p.Bad]
def wf_tape_Tape (p : tape_Tape) : Prop := (wfL (wfI .u8)) p.Bytes ∧ (wfI .i64) p.At ∧ (fun _ : Bool => True) p.Reading ∧ (fun _ : Bool => True) p.Bad
def wfU_tape_Tape (p : tape_Tape) : Prop := (wfLU (wfI .u8)) p.Bytes ∧ (wfI .i64) p.At ∧ (fun _ : Bool => True) p.Reading ∧ (fun _ : Bool => True) p.Bad

structure ref27_Cursor where
  L : (List Int)
  At : Int
  Bad : Bool
  deriving Inhabited
def enc_ref27_Cursor (p : ref27_Cursor) : List AV := [.lst 1 false (List.map (eI .i64) p.L), .int .i64 p.At, .sb p.Bad]
def wf_ref27_Cursor (p : ref27_Cursor) : Prop := (wfL (wfI .i64)) p.L ∧ (wfI .i64) p.At ∧ (fun _ : Bool => True) p.Bad
def wfU_ref27_Cursor (p : ref27_Cursor) : Prop := (wfLU (wfI .i64)) p.L ∧ (wfI .i64) p.At ∧ (fun _ : Bool => True) p.Bad

noncomputable def tape_Append_i3_l3s (b : (List Int)) (a : Int) : Option (((List Int) × Int) ⊕ (List Int)) :=
  cond (decide (a ≥ (128:Int))) (
    ck (decide ((b.length + [(ior .u8 (IntKind.u8.wrap a) (128:Int))].length) * 1 ≤ 140737488355328)) <|
    some (.inl ((b ++ [(ior .u8 (IntKind.u8.wrap a) (128:Int))]), (ishr .u64 a (7:Int))))) <|
  Option.map Sum.inr (ck (decide ((b.length + [(IntKind.u8.wrap a)].length) * 1 ≤ 140737488355328)) <|
  some (b ++ [(IntKind.u8.wrap a)]))


noncomputable def tape_Append_i3_l3 (a : (List Int)) (b : Int) : Option (List Int) :=
  loop (fun (s : ((List Int) × Int)) => tape_Append_i3_l3s s.1 s.2) (a, b)


noncomputable def tape_Append_i3_j1 (p0 : (List Int)) (a : Int) : Option (List Int) :=
  tape_Append_i3_l3 p0 a


noncomputable def tape_Append_i3 (p0 : (List Int)) (p1 : Int) : Option (List Int) :=
  cond (decide (p1 < (0:Int))) (
    tape_Append_i3_j1 p0 (inot .u64 (ishl .u64 (wu64 p1) (1:Int)))) <|
  tape_Append_i3_j1 p0 (ishl .u64 (wu64 p1) (1:Int))

noncomputable def codec_Append_i1 (p0 : (List Int)) (p1 : Int) : Option (List Int) :=
  ck (decide ((([] : List Int).length + p0.length) * 1 ≤ 140737488355328)) <|
  Option.bind (tape_Append_i3 (([] : List Int) ++ p0) p1) fun a =>
  some a

noncomputable def tape_Tape_Int_i3 (b0_0 : (List Int)) (b0_1 : Int) (b1 : Int) : Option (List Int) :=
  Option.bind (tape_Append_i3 b0_0 b1) fun a =>
  some a

noncomputable def tape_Tape_Small_i3 (b0_0 : (List Int)) (b0_1 : Int) (b1 : Int) : Option (List Int) :=
  Option.bind (tape_Tape_Int_i3 b0_0 b0_1 b1) fun a =>
  some a

noncomputable def tape_Tape_Config_i1 (b0_0 : (List Int)) (b0_1 : Int) (b1 : api_Config) : Option (List Int) :=
  Option.bind (tape_Tape_Small_i3 b0_0 b0_1 b1.Kind) fun a =>
  Option.bind (tape_Tape_Small_i3 a b0_1 b1.Agg) fun b =>
  Option.bind (tape_Tape_Int_i3 b b0_1 b1.W) fun c =>
  Option.bind (tape_Tape_Small_i3 c b0_1 b1.K) fun d =>
  Option.bind (tape_Tape_Small_i3 d b0_1 b1.Cap) fun e =>
  Option.bind (tape_Tape_Small_i3 e b0_1 b1.P) fun f =>
  Option.bind (tape_Tape_Small_i3 f b0_1 b1.Chains) fun g =>
  Option.bind (tape_Tape_Int_i3 g b0_1 b1.Max) fun h =>
  some h

noncomputable def tape_Tape_Within_i2 (p2 : Int) (p3 : Int) (b0_0 : (List Int)) (b0_1 : Int) (b1 : Int) : Option (List Int) :=
  Option.bind (tape_Tape_Int_i3 b0_0 b0_1 b1) fun a =>
  some a

noncomputable def tape_List_int64__i3_l3s (b0_1 : Int) (b1 : (List Int)) (b : Int) (a : (List Int)) : Option ((Int × (List Int)) ⊕ (List Int)) :=
  cond (decide (b < (b1.length : Int))) (
    Option.bind (idx b1 b) fun c =>
    Option.bind (tape_Tape_Int_i3 a b0_1 c) fun d =>
    some (.inl ((w64 (b + (1:Int))), d))) <|
  Option.map Sum.inr (some a)


noncomputable def tape_List_int64__i3_l3 (b0_1 : Int) (b1 : (List Int)) (b : Int) (a : (List Int)) : Option (List Int) :=
  loop (fun (s : (Int × (List Int))) => tape_List_int64__i3_l3s b0_1 b1 s.1 s.2) (b, a)


noncomputable def tape_List_int64__i3 (b0_0 : (List Int)) (b0_1 : Int) (b1 : (List Int)) : Option (List Int) :=
  Option.bind (tape_Tape_Within_i2 (0:Int) (w64 ((b0_0.length : Int) - b0_1)) b0_0 b0_1 (b1.length : Int)) fun a =>
  tape_List_int64__i3_l3 b0_1 b1 (0:Int) a

noncomputable def tape_Tape_Ints_i1 (b0_0 : (List Int)) (b0_1 : Int) (b1 : (List Int)) : Option (List Int) :=
  Option.bind (tape_List_int64__i3 b0_0 b0_1 b1) fun a =>
  some a

noncomputable def tape_Append_i2_l3s (b : (List Int)) (a : Int) : Option (((List Int) × Int) ⊕ (List Int)) :=
  cond (decide (a ≥ (128:Int))) (
    ck (decide ((b.length + [(ior .u8 (IntKind.u8.wrap a) (128:Int))].length) * 1 ≤ 140737488355328)) <|
    some (.inl ((b ++ [(ior .u8 (IntKind.u8.wrap a) (128:Int))]), (ishr .u64 a (7:Int))))) <|
  Option.map Sum.inr (ck (decide ((b.length + [(IntKind.u8.wrap a)].length) * 1 ≤ 140737488355328)) <|
  some (b ++ [(IntKind.u8.wrap a)]))


noncomputable def tape_Append_i2_l3 (a : (List Int)) (b : Int) : Option (List Int) :=
  loop (fun (s : ((List Int) × Int)) => tape_Append_i2_l3s s.1 s.2) (a, b)


noncomputable def tape_Append_i2_j1 (a : Int) : Option (List Int) :=
  tape_Append_i2_l3 ([] : List Int) a


noncomputable def tape_Append_i2 (p1 : Int) : Option (List Int) :=
  cond (decide (p1 < (0:Int))) (
    tape_Append_i2_j1 (inot .u64 (ishl .u64 (wu64 p1) (1:Int)))) <|
  tape_Append_i2_j1 (ishl .u64 (wu64 p1) (1:Int))

noncomputable def tape_Tape_Int_i2 (b0_1 : Int) (b1 : Int) : Option (List Int) :=
  Option.bind (tape_Append_i2 b1) fun a =>
  some a

noncomputable def tape_Tape_Small_i2 (b0_1 : Int) (b1 : Int) : Option (List Int) :=
  Option.bind (tape_Tape_Int_i2 b0_1 b1) fun a =>
  some a

noncomputable def tape_Tape_Text_1_i1 (b0 : Int) (b2_0 : (List Int)) (b2_1 : Int) : Option (Int × (List Int)) :=
  Option.bind (tape_Tape_Within_i2 (0:Int) (255:Int) b2_0 b2_1 (w64 b0)) fun a =>
  some ((IntKind.u8.wrap (w64 b0)), a)

noncomputable def tape_List_byte__i3_l3s (b0_1 : Int) (b1 : (List Int)) (b : Int) (a : (List Int)) : Option ((Int × (List Int)) ⊕ (List Int)) :=
  cond (decide (b < (b1.length : Int))) (
    Option.bind (idx b1 b) fun c =>
    Option.bind (tape_Tape_Text_1_i1 c a b0_1) fun d =>
    some (.inl ((w64 (b + (1:Int))), d.2))) <|
  Option.map Sum.inr (some a)


noncomputable def tape_List_byte__i3_l3 (b0_1 : Int) (b1 : (List Int)) (b : Int) (a : (List Int)) : Option (List Int) :=
  loop (fun (s : (Int × (List Int))) => tape_List_byte__i3_l3s b0_1 b1 s.1 s.2) (b, a)


noncomputable def tape_List_byte__i3 (b0_0 : (List Int)) (b0_1 : Int) (b1 : (List Int)) : Option (List Int) :=
  Option.bind (tape_Tape_Within_i2 (0:Int) (w64 ((b0_0.length : Int) - b0_1)) b0_0 b0_1 (b1.length : Int)) fun a =>
  tape_List_byte__i3_l3 b0_1 b1 (0:Int) a

noncomputable def tape_Tape_Text_i1 (b0_0 : (List Int)) (b0_1 : Int) (b1 : (List Int)) : Option (List Int) :=
  Option.bind (tape_List_byte__i3 b0_0 b0_1 b1) fun a =>
  some a

noncomputable def codec_command_i1 (b0_1 : Int) (b1 : api_Command) : Option (List Int) :=
  Option.bind (tape_Tape_Small_i2 b0_1 b1.Op) fun a =>
  Option.bind (tape_Tape_Int_i3 a b0_1 b1.ID) fun b =>
  Option.bind (tape_Tape_Config_i1 b b0_1 b1.Config) fun c =>
  Option.bind (tape_Tape_Int_i3 c b0_1 b1.T) fun d =>
  Option.bind (tape_Tape_Int_i3 d b0_1 b1.V) fun e =>
  Option.bind (tape_Tape_Ints_i1 e b0_1 b1.Draws) fun f =>
  Option.bind (tape_Tape_Small_i3 f b0_1 b1.Query.Op) fun g =>
  Option.bind (tape_Tape_Int_i3 g b0_1 b1.Query.A) fun h =>
  Option.bind (tape_Tape_Int_i3 h b0_1 b1.Query.B) fun i =>
  Option.bind (tape_Tape_Text_i1 i b0_1 b1.Bytes) fun j =>
  some j

noncomputable def codec_written (p0 : tape_Tape) : ((List Int) × Int) :=
  cond (decide ((p0.Bytes.length : Int) > (1048576:Int))) (
    (([] : List Int), (5:Int))) <|
  (p0.Bytes, (0:Int))

noncomputable def codec_EncodeCommand (p0 : api_Command) : Option ((List Int) × Int) :=
  Option.bind (codec_command_i1 (0:Int) p0) fun b =>
  let a := (codec_written (tape_Tape.mk b (0:Int) false false));
  some (a.1, a.2)

noncomputable def tape_Read_l3s (p0 : (List Int)) (p1 : Int) (c : Int) (a : Int) : Option ((Int × Int) ⊕ (Int × Int × Bool)) :=
  cond ((decide (a < (10:Int))) && (decide ((w64 (p1 + a)) < (p0.length : Int)))) (
    Option.bind (idx p0 (w64 (p1 + a))) fun b =>
    cond ((a == (9:Int)) && (decide (b > (1:Int)))) (
      some (.inr ((0:Int), (0:Int), false))) <|
    ck (decide (0 ≤ (wu64 (w64 ((7:Int) * a))))) <|
    cond (decide (b ≥ (128:Int))) (
      some (.inl ((ior .u64 c (ishl .u64 (wu64 (iand .u8 b (127:Int))) (wu64 (w64 ((7:Int) * a))))), (w64 (a + (1:Int)))))) <|
    cond ((b == (0:Int)) && (decide (a > (0:Int)))) (
      some (.inr ((0:Int), (0:Int), false))) <|
    cond ((iand .u64 (ior .u64 c (ishl .u64 (wu64 (iand .u8 b (127:Int))) (wu64 (w64 ((7:Int) * a))))) (1:Int)) == (1:Int)) (
      some (.inr ((inot .i64 (w64 (ishr .u64 (ior .u64 c (ishl .u64 (wu64 (iand .u8 b (127:Int))) (wu64 (w64 ((7:Int) * a))))) (1:Int)))), (w64 ((w64 (p1 + a)) + (1:Int))), true))) <|
    some (.inr ((w64 (ishr .u64 (ior .u64 c (ishl .u64 (wu64 (iand .u8 b (127:Int))) (wu64 (w64 ((7:Int) * a))))) (1:Int))), (w64 ((w64 (p1 + a)) + (1:Int))), true))) <|
  Option.map Sum.inr (some ((0:Int), (0:Int), false))


noncomputable def tape_Read_l3 (p0 : (List Int)) (p1 : Int) (a : Int) (b : Int) : Option (Int × Int × Bool) :=
  loop (fun (s : (Int × Int)) => tape_Read_l3s p0 p1 s.1 s.2) (a, b)


noncomputable def tape_Read (p0 : (List Int)) (p1 : Int) : Option (Int × Int × Bool) :=
  cond ((decide (p1 < (0:Int))) || (decide (p1 > (p0.length : Int)))) (
    some ((0:Int), (0:Int), false)) <|
  tape_Read_l3 p0 p1 (0:Int) (0:Int)

noncomputable def codec_Read (p0 : (List Int)) (p1 : Int) : Option (Int × Int × Bool) :=
  Option.bind (tape_Read p0 p1) fun a =>
  some (a.1, a.2.1, a.2.2)

noncomputable def script_frame (p0 : (List Int)) (p1 : (List Int)) : Option (List Int) :=
  Option.bind (codec_Append_i1 p0 (p1.length : Int)) fun a =>
  ck (decide ((a.length + p1.length) * 1 ≤ 140737488355328)) <|
  some (a ++ p1)

noncomputable def script_Join_l2s (p0 : (List api_Command)) (c : (List Int)) (a : Int) : Option (((List Int) × Int) ⊕ ((List Int) × Int)) :=
  cond (decide (a < (p0.length : Int))) (
    Option.bind (idx p0 a) fun d =>
    Option.bind (codec_EncodeCommand d) fun b =>
    cond (b.2 != (0:Int)) (
      some (.inr (([] : List Int), b.2))) <|
    Option.bind (script_frame c b.1) fun e =>
    some (.inl (e, (w64 (a + (1:Int)))))) <|
  Option.map Sum.inr (some (c, (0:Int)))


noncomputable def script_Join_l2 (p0 : (List api_Command)) (b : (List Int)) (a : Int) : Option ((List Int) × Int) :=
  loop (fun (s : ((List Int) × Int)) => script_Join_l2s p0 s.1 s.2) (b, a)


noncomputable def script_Join (p0 : (List api_Command)) : Option ((List Int) × Int) :=
  script_Join_l2 p0 ([] : List Int) (0:Int)

noncomputable def law30_awake : Option Bool :=
  Option.bind (script_Join [(api_Command.mk (6:Int) (0:Int) (api_Config.mk (0:Int) (0:Int) (0:Int) (0:Int) (0:Int) (0:Int) (0:Int) (0:Int)) (0:Int) (0:Int) ([] : List Int) (api_Query.mk (0:Int) (0:Int) (0:Int)) ([] : List Int))]) fun a =>
  Option.bind (gd ((a.2 == (0:Int)) && ((a.1.length : Int) == (18:Int))) (idx a.1 (0:Int))) fun b =>
  Option.bind (gd (((a.2 == (0:Int)) && ((a.1.length : Int) == (18:Int))) && (b == (34:Int))) (idx a.1 (1:Int))) fun c =>
  some ((((a.2 == (0:Int)) && ((a.1.length : Int) == (18:Int))) && (b == (34:Int))) && (c == (12:Int)))

noncomputable def law30_few_l2s (p0 : (List api_Command)) (a : Int) : Option (Int ⊕ Bool) :=
  cond (decide (a < (p0.length : Int))) (
    Option.bind (idx p0 a) fun b =>
    cond ((decide ((b.Draws.length : Int) > (60:Int))) || (decide ((b.Bytes.length : Int) > (600:Int)))) (
      some (.inr false)) <|
    some (.inl (w64 (a + (1:Int))))) <|
  Option.map Sum.inr (some (decide ((p0.length : Int) ≤ (20:Int))))


noncomputable def law30_few_l2 (p0 : (List api_Command)) (a : Int) : Option Bool :=
  loop (fun (s : Int) => law30_few_l2s p0 s) a


noncomputable def law30_few (p0 : (List api_Command)) : Option Bool :=
  law30_few_l2 p0 (0:Int)

noncomputable def ref27_Cursor_Take (p0 : ref27_Cursor) : Option (Int × ref27_Cursor) :=
  cond (decide (p0.At ≥ (p0.L.length : Int))) (
    some ((0:Int), (ref27_Cursor.mk p0.L p0.At true))) <|
  Option.bind (idx p0.L (w64 ((w64 (p0.At + (1:Int))) - (1:Int)))) fun a =>
  some (a, (ref27_Cursor.mk p0.L (w64 (p0.At + (1:Int))) p0.Bad))

noncomputable def ref27_Cursor_Many (p0 : ref27_Cursor) : Option (Int × ref27_Cursor) :=
  Option.bind (ref27_Cursor_Take p0) fun a =>
  cond ((decide (a.1 < (0:Int))) || (decide (a.1 > (w64 ((a.2.L.length : Int) - a.2.At))))) (
    some ((0:Int), (ref27_Cursor.mk a.2.L a.2.At true))) <|
  some (a.1, a.2)

noncomputable def ref27_Cursor_Bytes_l2s (e : (List Int)) (f : Int) (b : (List Int)) (c : Int) (d : Bool) : Option (((List Int) × Int × (List Int) × Int × Bool) ⊕ ((List Int) × ref27_Cursor)) :=
  cond (decide (f > (0:Int))) (
    Option.bind (ref27_Cursor_Take (ref27_Cursor.mk b c d)) fun a =>
    cond ((decide (a.1 < (0:Int))) || (decide (a.1 > (255:Int)))) (
      some (.inr (([] : List Int), (ref27_Cursor.mk a.2.L a.2.At true)))) <|
    ck (decide ((e.length + [(IntKind.u8.wrap a.1)].length) * 1 ≤ 140737488355328)) <|
    some (.inl ((e ++ [(IntKind.u8.wrap a.1)]), (w64 (f - (1:Int))), a.2.L, a.2.At, a.2.Bad))) <|
  Option.map Sum.inr (some (e, (ref27_Cursor.mk b c d)))


noncomputable def ref27_Cursor_Bytes_l2 (d : (List Int)) (e : Int) (a : (List Int)) (b : Int) (c : Bool) : Option ((List Int) × ref27_Cursor) :=
  loop (fun (s : ((List Int) × Int × (List Int) × Int × Bool)) => ref27_Cursor_Bytes_l2s s.1 s.2.1 s.2.2.1 s.2.2.2.1 s.2.2.2.2) (d, e, a, b, c)


noncomputable def ref27_Cursor_Bytes (p0 : ref27_Cursor) : Option ((List Int) × ref27_Cursor) :=
  Option.bind (ref27_Cursor_Many p0) fun a =>
  ref27_Cursor_Bytes_l2 ([] : List Int) a.1 a.2.L a.2.At a.2.Bad

noncomputable def ref27_Cursor_Config (p0 : ref27_Cursor) : Option (api_Config × ref27_Cursor) :=
  Option.bind (ref27_Cursor_Take p0) fun a =>
  Option.bind (ref27_Cursor_Take a.2) fun b =>
  Option.bind (ref27_Cursor_Take b.2) fun c =>
  Option.bind (ref27_Cursor_Take c.2) fun d =>
  Option.bind (ref27_Cursor_Take d.2) fun e =>
  Option.bind (ref27_Cursor_Take e.2) fun f =>
  Option.bind (ref27_Cursor_Take f.2) fun g =>
  Option.bind (ref27_Cursor_Take g.2) fun h =>
  some ((api_Config.mk a.1 b.1 c.1 d.1 e.1 f.1 g.1 h.1), h.2)

noncomputable def ref27_Cursor_List_l2s (e : (List Int)) (f : Int) (b : (List Int)) (c : Int) (d : Bool) : Option (((List Int) × Int × (List Int) × Int × Bool) ⊕ ((List Int) × ref27_Cursor)) :=
  cond (decide (f > (0:Int))) (
    Option.bind (ref27_Cursor_Take (ref27_Cursor.mk b c d)) fun a =>
    ck (decide ((e.length + [a.1].length) * 8 ≤ 140737488355328)) <|
    some (.inl ((e ++ [a.1]), (w64 (f - (1:Int))), a.2.L, a.2.At, a.2.Bad))) <|
  Option.map Sum.inr (some (e, (ref27_Cursor.mk b c d)))


noncomputable def ref27_Cursor_List_l2 (d : (List Int)) (e : Int) (a : (List Int)) (b : Int) (c : Bool) : Option ((List Int) × ref27_Cursor) :=
  loop (fun (s : ((List Int) × Int × (List Int) × Int × Bool)) => ref27_Cursor_List_l2s s.1 s.2.1 s.2.2.1 s.2.2.2.1 s.2.2.2.2) (d, e, a, b, c)


noncomputable def ref27_Cursor_List (p0 : ref27_Cursor) : Option ((List Int) × ref27_Cursor) :=
  Option.bind (ref27_Cursor_Many p0) fun a =>
  ref27_Cursor_List_l2 ([] : List Int) a.1 a.2.L a.2.At a.2.Bad

noncomputable def ref27_Read_l3s (p0 : (List Int)) (p1 : Int) (c : Int) (a : Int) : Option ((Int × Int) ⊕ (Int × Int × Bool)) :=
  cond ((decide (a < (10:Int))) && (decide ((w64 (p1 + a)) < (p0.length : Int)))) (
    Option.bind (idx p0 (w64 (p1 + a))) fun b =>
    cond ((a == (9:Int)) && (decide (b > (1:Int)))) (
      some (.inr ((0:Int), (0:Int), false))) <|
    ck (decide (0 ≤ (wu64 (w64 ((7:Int) * a))))) <|
    cond (decide (b ≥ (128:Int))) (
      some (.inl ((ior .u64 c (ishl .u64 (wu64 (iand .u8 b (127:Int))) (wu64 (w64 ((7:Int) * a))))), (w64 (a + (1:Int)))))) <|
    cond ((b == (0:Int)) && (decide (a > (0:Int)))) (
      some (.inr ((0:Int), (0:Int), false))) <|
    cond ((iand .u64 (ior .u64 c (ishl .u64 (wu64 (iand .u8 b (127:Int))) (wu64 (w64 ((7:Int) * a))))) (1:Int)) == (1:Int)) (
      some (.inr ((w64 ((IntKind.i64.wrap (0 - (w64 (ishr .u64 (ior .u64 c (ishl .u64 (wu64 (iand .u8 b (127:Int))) (wu64 (w64 ((7:Int) * a))))) (1:Int))))) - (1:Int))), (w64 ((w64 (p1 + a)) + (1:Int))), true))) <|
    some (.inr ((w64 (ishr .u64 (ior .u64 c (ishl .u64 (wu64 (iand .u8 b (127:Int))) (wu64 (w64 ((7:Int) * a))))) (1:Int))), (w64 ((w64 (p1 + a)) + (1:Int))), true))) <|
  Option.map Sum.inr (some ((0:Int), (0:Int), false))


noncomputable def ref27_Read_l3 (p0 : (List Int)) (p1 : Int) (a : Int) (b : Int) : Option (Int × Int × Bool) :=
  loop (fun (s : (Int × Int)) => ref27_Read_l3s p0 p1 s.1 s.2) (a, b)


noncomputable def ref27_Read (p0 : (List Int)) (p1 : Int) : Option (Int × Int × Bool) :=
  cond ((decide (p1 < (0:Int))) || (decide (p1 > (p0.length : Int)))) (
    some ((0:Int), (0:Int), false)) <|
  ref27_Read_l3 p0 p1 (0:Int) (0:Int)

noncomputable def ref27_Numbers_l2s (p0 : (List Int)) (b : (List Int)) (c : Int) : Option (((List Int) × Int) ⊕ ((List Int) × Int)) :=
  cond (decide (c < (p0.length : Int))) (
    Option.bind (ref27_Read p0 c) fun a =>
    cond (!a.2.2) (
      some (.inr (([] : List Int), (13:Int)))) <|
    ck (decide ((b.length + [a.1].length) * 8 ≤ 140737488355328)) <|
    some (.inl ((b ++ [a.1]), a.2.1))) <|
  Option.map Sum.inr (some (b, (0:Int)))


noncomputable def ref27_Numbers_l2 (p0 : (List Int)) (a : (List Int)) (b : Int) : Option ((List Int) × Int) :=
  loop (fun (s : ((List Int) × Int)) => ref27_Numbers_l2s p0 s.1 s.2) (a, b)


noncomputable def ref27_Numbers (p0 : (List Int)) : Option ((List Int) × Int) :=
  ref27_Numbers_l2 p0 ([] : List Int) (0:Int)

noncomputable def ref27_open (p0 : (List Int)) : Option ((Option ref27_Cursor) × Bool) :=
  cond (decide ((p0.length : Int) > (1048576:Int))) (
    some (none, false)) <|
  Option.bind (ref27_Numbers p0) fun a =>
  some ((some (ref27_Cursor.mk a.1 (0:Int) false)), (a.2 == (0:Int)))

noncomputable def ref27_DecodeCommand (p0 : (List Int)) : Option (api_Command × Int) :=
  Option.bind (ref27_open p0) fun b =>
  Option.elim b.1 (
    cond (!b.2) (
      some ((api_Command.mk (0:Int) (0:Int) (api_Config.mk (0:Int) (0:Int) (0:Int) (0:Int) (0:Int) (0:Int) (0:Int) (0:Int)) (0:Int) (0:Int) ([] : List Int) (api_Query.mk (0:Int) (0:Int) (0:Int)) ([] : List Int)), (13:Int))) <|
    none) fun z1_1 =>
  cond (!b.2) (
    some ((api_Command.mk (0:Int) (0:Int) (api_Config.mk (0:Int) (0:Int) (0:Int) (0:Int) (0:Int) (0:Int) (0:Int) (0:Int)) (0:Int) (0:Int) ([] : List Int) (api_Query.mk (0:Int) (0:Int) (0:Int)) ([] : List Int)), (13:Int))) <|
  Option.bind (ref27_Cursor_Take z1_1) fun g =>
  Option.bind (ref27_Cursor_Take g.2) fun h =>
  Option.bind (ref27_Cursor_Config h.2) fun i =>
  Option.bind (ref27_Cursor_Take i.2) fun j =>
  Option.bind (ref27_Cursor_Take j.2) fun k =>
  Option.bind (ref27_Cursor_List k.2) fun c =>
  Option.bind (ref27_Cursor_Take c.2) fun d =>
  Option.bind (ref27_Cursor_Take d.2) fun e =>
  Option.bind (ref27_Cursor_Take e.2) fun f =>
  Option.bind (ref27_Cursor_Bytes f.2) fun a =>
  cond (a.2.Bad || (a.2.At != (a.2.L.length : Int))) (
    some ((api_Command.mk (0:Int) (0:Int) (api_Config.mk (0:Int) (0:Int) (0:Int) (0:Int) (0:Int) (0:Int) (0:Int) (0:Int)) (0:Int) (0:Int) ([] : List Int) (api_Query.mk (0:Int) (0:Int) (0:Int)) ([] : List Int)), (13:Int))) <|
  some ((api_Command.mk g.1 h.1 i.1 j.1 k.1 c.1 (api_Query.mk d.1 e.1 f.1) a.1), (0:Int))

noncomputable def ref09_SameNumbers_l3s (p0 : (List Int)) (p1 : (List Int)) (a : Int) : Option (Int ⊕ Bool) :=
  cond (decide (a < (p0.length : Int))) (
    Option.bind (idx p0 a) fun b =>
    Option.bind (idx p1 a) fun c =>
    cond (b != c) (
      some (.inr false)) <|
    some (.inl (w64 (a + (1:Int))))) <|
  Option.map Sum.inr (some true)


noncomputable def ref09_SameNumbers_l3 (p0 : (List Int)) (p1 : (List Int)) (a : Int) : Option Bool :=
  loop (fun (s : Int) => ref09_SameNumbers_l3s p0 p1 s) a


noncomputable def ref09_SameNumbers (p0 : (List Int)) (p1 : (List Int)) : Option Bool :=
  cond ((p0.length : Int) != (p1.length : Int)) (
    some false) <|
  ref09_SameNumbers_l3 p0 p1 (0:Int)

noncomputable def ref27_Bytes_l2s (p0 : (List Int)) (b : (List Int)) (a : Int) : Option (((List Int) × Int) ⊕ (List Int)) :=
  cond (decide (a < (p0.length : Int))) (
    Option.bind (idx p0 a) fun c =>
    ck (decide ((b.length + [(w64 c)].length) * 8 ≤ 140737488355328)) <|
    some (.inl ((b ++ [(w64 c)]), (w64 (a + (1:Int)))))) <|
  Option.map Sum.inr (some b)


noncomputable def ref27_Bytes_l2 (p0 : (List Int)) (b : (List Int)) (a : Int) : Option (List Int) :=
  loop (fun (s : ((List Int) × Int)) => ref27_Bytes_l2s p0 s.1 s.2) (b, a)


noncomputable def ref27_Bytes (p0 : (List Int)) : Option (List Int) :=
  ref27_Bytes_l2 p0 [(p0.length : Int)] (0:Int)

noncomputable def ref27_Config (p0 : api_Config) : (List Int) :=
  [p0.Kind, p0.Agg, p0.W, p0.K, p0.Cap, p0.P, p0.Chains, p0.Max]

noncomputable def ref27_List (p0 : (List Int)) : Option (List Int) :=
  ck (decide (([(p0.length : Int)].length + p0.length) * 8 ≤ 140737488355328)) <|
  some ([(p0.length : Int)] ++ p0)

noncomputable def ref27_Command (p0 : api_Command) : Option (List Int) :=
  let a := (ref27_Config p0.Config);
  ck (decide (([p0.Op, p0.ID].length + a.length) * 8 ≤ 140737488355328)) <|
  ck (decide ((([p0.Op, p0.ID] ++ a).length + [p0.T, p0.V].length) * 8 ≤ 140737488355328)) <|
  Option.bind (ref27_List p0.Draws) fun b =>
  ck (decide (((([p0.Op, p0.ID] ++ a) ++ [p0.T, p0.V]).length + b.length) * 8 ≤ 140737488355328)) <|
  ck (decide ((((([p0.Op, p0.ID] ++ a) ++ [p0.T, p0.V]) ++ b).length + [p0.Query.Op, p0.Query.A, p0.Query.B].length) * 8 ≤ 140737488355328)) <|
  Option.bind (ref27_Bytes p0.Bytes) fun c =>
  ck (decide (((((([p0.Op, p0.ID] ++ a) ++ [p0.T, p0.V]) ++ b) ++ [p0.Query.Op, p0.Query.A, p0.Query.B]).length + c.length) * 8 ≤ 140737488355328)) <|
  some ((((([p0.Op, p0.ID] ++ a) ++ [p0.T, p0.V]) ++ b) ++ [p0.Query.Op, p0.Query.A, p0.Query.B]) ++ c)

noncomputable def ref27_SameCommand (p0 : api_Command) (p1 : api_Command) : Option Bool :=
  Option.bind (ref27_Command p0) fun a =>
  Option.bind (ref27_Command p1) fun b =>
  Option.bind (ref09_SameNumbers a b) fun c =>
  some c

noncomputable def ref27_Append_l3s (a : Int) (b : (List Int)) : Option ((Int × (List Int)) ⊕ (List Int)) :=
  cond (decide (a ≥ (128:Int))) (
    ck (decide ((b.length + [(ior .u8 (IntKind.u8.wrap (iand .u64 a (127:Int))) (128:Int))].length) * 1 ≤ 140737488355328)) <|
    some (.inl ((ishr .u64 a (7:Int)), (b ++ [(ior .u8 (IntKind.u8.wrap (iand .u64 a (127:Int))) (128:Int))])))) <|
  Option.map Sum.inr (ck (decide ((b.length + [(IntKind.u8.wrap a)].length) * 1 ≤ 140737488355328)) <|
  some (b ++ [(IntKind.u8.wrap a)]))


noncomputable def ref27_Append_l3 (a : Int) (b : (List Int)) : Option (List Int) :=
  loop (fun (s : (Int × (List Int))) => ref27_Append_l3s s.1 s.2) (a, b)


noncomputable def ref27_Append_j1 (p0 : (List Int)) (a : Int) : Option (List Int) :=
  ck (decide ((([] : List Int).length + p0.length) * 1 ≤ 140737488355328)) <|
  ref27_Append_l3 a (([] : List Int) ++ p0)


noncomputable def ref27_Append (p0 : (List Int)) (p1 : Int) : Option (List Int) :=
  cond (decide (p1 < (0:Int))) (
    ref27_Append_j1 p0 (inot .u64 (ishl .u64 (wu64 p1) (1:Int)))) <|
  ref27_Append_j1 p0 (ishl .u64 (wu64 p1) (1:Int))

noncomputable def ref27_Write_l2s (p0 : (List Int)) (a : (List Int)) (b : Int) : Option (((List Int) × Int) ⊕ (List Int)) :=
  cond (decide (b < (p0.length : Int))) (
    Option.bind (idx p0 b) fun d =>
    Option.bind (ref27_Append ([] : List Int) d) fun c =>
    ck (decide ((a.length + c.length) * 1 ≤ 140737488355328)) <|
    some (.inl ((a ++ c), (w64 (b + (1:Int)))))) <|
  Option.map Sum.inr (some a)


noncomputable def ref27_Write_l2 (p0 : (List Int)) (a : (List Int)) (b : Int) : Option (List Int) :=
  loop (fun (s : ((List Int) × Int)) => ref27_Write_l2s p0 s.1 s.2) (a, b)


noncomputable def ref27_Write (p0 : (List Int)) : Option (List Int) :=
  ref27_Write_l2 p0 ([] : List Int) (0:Int)

noncomputable def ref27_encode (p0 : (List Int)) : Option ((List Int) × Int) :=
  Option.bind (ref27_Write p0) fun a =>
  cond (decide ((a.length : Int) > (1048576:Int))) (
    some (([] : List Int), (5:Int))) <|
  some (a, (0:Int))

noncomputable def ref27_EncodeCommand (p0 : api_Command) : Option ((List Int) × Int) :=
  Option.bind (ref27_Command p0) fun b =>
  Option.bind (ref27_encode b) fun a =>
  some (a.1, a.2)

noncomputable def ref27_Append_i1_l3s (a : Int) (b : (List Int)) : Option ((Int × (List Int)) ⊕ (List Int)) :=
  cond (decide (a ≥ (128:Int))) (
    ck (decide ((b.length + [(ior .u8 (IntKind.u8.wrap (iand .u64 a (127:Int))) (128:Int))].length) * 1 ≤ 140737488355328)) <|
    some (.inl ((ishr .u64 a (7:Int)), (b ++ [(ior .u8 (IntKind.u8.wrap (iand .u64 a (127:Int))) (128:Int))])))) <|
  Option.map Sum.inr (ck (decide ((b.length + [(IntKind.u8.wrap a)].length) * 1 ≤ 140737488355328)) <|
  some (b ++ [(IntKind.u8.wrap a)]))


noncomputable def ref27_Append_i1_l3 (a : Int) (b : (List Int)) : Option (List Int) :=
  loop (fun (s : (Int × (List Int))) => ref27_Append_i1_l3s s.1 s.2) (a, b)


noncomputable def ref27_Append_i1_j1 (a : Int) : Option (List Int) :=
  ck (decide ((([] : List Int).length + ([] : List Int).length) * 1 ≤ 140737488355328)) <|
  ref27_Append_i1_l3 a (([] : List Int) ++ ([] : List Int))


noncomputable def ref27_Append_i1 (p1 : Int) : Option (List Int) :=
  cond (decide (p1 < (0:Int))) (
    ref27_Append_i1_j1 (inot .u64 (ishl .u64 (wu64 p1) (1:Int)))) <|
  ref27_Append_i1_j1 (ishl .u64 (wu64 p1) (1:Int))

noncomputable def ref30_Frame (p0 : (List Int)) : Option (List Int) :=
  Option.bind (ref27_Append_i1 (p0.length : Int)) fun a =>
  ck (decide ((a.length + p0.length) * 1 ≤ 140737488355328)) <|
  some (a ++ p0)

noncomputable def ref30_Join_l2s (p0 : (List api_Command)) (b : (List Int)) (a : Int) : Option (((List Int) × Int) ⊕ ((List Int) × Int)) :=
  cond (decide (a < (p0.length : Int))) (
    Option.bind (idx p0 a) fun e =>
    Option.bind (ref27_EncodeCommand e) fun c =>
    cond (c.2 != (0:Int)) (
      some (.inr (([] : List Int), c.2))) <|
    Option.bind (ref30_Frame c.1) fun d =>
    ck (decide ((b.length + d.length) * 1 ≤ 140737488355328)) <|
    some (.inl ((b ++ d), (w64 (a + (1:Int)))))) <|
  Option.map Sum.inr (some (b, (0:Int)))


noncomputable def ref30_Join_l2 (p0 : (List api_Command)) (b : (List Int)) (a : Int) : Option ((List Int) × Int) :=
  loop (fun (s : ((List Int) × Int)) => ref30_Join_l2s p0 s.1 s.2) (b, a)


noncomputable def ref30_Join (p0 : (List api_Command)) : Option ((List Int) × Int) :=
  ref30_Join_l2 p0 ([] : List Int) (0:Int)

noncomputable def script_Split_l2s (p0 : (List Int)) (c : (List (List Int))) (b : Int) : Option (((List (List Int)) × Int) ⊕ ((List (List Int)) × (List Int))) :=
  Option.bind (codec_Read p0 b) fun a =>
  cond ((((!a.2.2) || (decide (a.1 < (0:Int)))) || (decide (a.1 > (1048576:Int)))) || (decide (a.1 > (w64 ((p0.length : Int) - a.2.1))))) (
    ck (decide (0 ≤ b ∧ b ≤ (p0.length : Int))) <|
    ck (decide ((([] : List Int).length + (p0.drop (b).toNat).length) * 1 ≤ 140737488355328)) <|
    some (.inr (c, (([] : List Int) ++ (p0.drop (b).toNat))))) <|
  ck (decide (0 ≤ a.2.1 ∧ a.2.1 ≤ (w64 (a.2.1 + a.1)) ∧ (w64 (a.2.1 + a.1)) ≤ (p0.length : Int))) <|
  ck (decide ((([] : List Int).length + ((p0.take ((w64 (a.2.1 + a.1))).toNat).drop (a.2.1).toNat).length) * 1 ≤ 140737488355328)) <|
  ck (decide ((c.length + [(([] : List Int) ++ ((p0.take ((w64 (a.2.1 + a.1))).toNat).drop (a.2.1).toNat))].length) * 24 ≤ 140737488355328)) <|
  some (.inl ((c ++ [(([] : List Int) ++ ((p0.take ((w64 (a.2.1 + a.1))).toNat).drop (a.2.1).toNat))]), (w64 (a.2.1 + a.1))))


noncomputable def script_Split_l2 (p0 : (List Int)) (a : (List (List Int))) (b : Int) : Option ((List (List Int)) × (List Int)) :=
  loop (fun (s : ((List (List Int)) × Int)) => script_Split_l2s p0 s.1 s.2) (a, b)


noncomputable def script_Split (p0 : (List Int)) : Option ((List (List Int)) × (List Int)) :=
  script_Split_l2 p0 ([] : List (List Int)) (0:Int)

noncomputable def law30_ScriptJoins_l5s (p0 : (List api_Command)) (c : ((List (List Int)) × (List Int))) (a : Int) : Option (Int ⊕ Bool) :=
  cond (decide (a < (c.1.length : Int))) (
    Option.bind (idx c.1 a) fun d =>
    Option.bind (ref27_DecodeCommand d) fun b =>
    Option.bind (gd (!(b.2 != (0:Int))) (idx p0 a)) fun e =>
    Option.bind (gd (!(b.2 != (0:Int))) (ref27_SameCommand b.1 e)) fun f =>
    cond ((b.2 != (0:Int)) || (!f)) (
      some (.inr false)) <|
    some (.inl (w64 (a + (1:Int))))) <|
  Option.map Sum.inr (Option.bind law30_awake fun g =>
  some g)


noncomputable def law30_ScriptJoins_l5 (p0 : (List api_Command)) (b : ((List (List Int)) × (List Int))) (a : Int) : Option Bool :=
  loop (fun (s : Int) => law30_ScriptJoins_l5s p0 b s) a


noncomputable def law30_ScriptJoins (p0 : (List api_Command)) : Option Bool :=
  Option.bind (law30_few p0) fun d =>
  cond (!d) (
    Option.bind law30_awake fun e =>
    some e) <|
  Option.bind (script_Join p0) fun a =>
  Option.bind (ref30_Join p0) fun c =>
  Option.bind (ref27_SameBytes a.1 c.1) fun f =>
  cond ((!f) || (a.2 != c.2)) (
    some false) <|
  Option.bind (script_Split a.1) fun b =>
  cond (((a.2 != (0:Int)) || ((b.2.length : Int) != (0:Int))) || ((b.1.length : Int) != (p0.length : Int))) (
    some false) <|
  law30_ScriptJoins_l5 p0 b (0:Int)

end Go.Win
