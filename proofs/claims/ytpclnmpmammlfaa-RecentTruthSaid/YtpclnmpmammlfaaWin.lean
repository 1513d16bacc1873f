/- The functions of the program and of the statements, as functions on plain data: made by program out of the translated code. -/
import Derived.Test.YtpclnmpmammlfaaVc
set_option linter.unusedVariables false
namespace Go.Win
open Go.Vc Go.Dec

structure api_Ratio where
  Num : Int
  Den : Int
  deriving Inhabited
def enc_api_Ratio (p : api_Ratio) : List AV := [.int .i64 p.Num, .int .i64 p.Den]
def wf_api_Ratio (p : api_Ratio) : Prop := (wfI .i64) p.Num ∧ (wfI .i64) p.Den

structure api_Bounds where
  Lo : api_Ratio
  Est : api_Ratio
  Hi : api_Ratio
  deriving Inhabited
def enc_api_Bounds (p : api_Bounds) : List AV := [.int .i64 p.Lo.Num, .int .i64 p.Lo.Den, .int .i64 p.Est.Num, .int .i64 p.Est.Den, .int .i64 p.Hi.Num, .int .i64 p.Hi.Den]
def wf_api_Bounds (p : api_Bounds) : Prop := wf_api_Ratio p.Lo ∧ wf_api_Ratio p.Est ∧ wf_api_Ratio p.Hi

structure api_Wide where
  Hi : Int
  Lo : Int
  deriving Inhabited
def enc_api_Wide (p : api_Wide) : List AV := [.int .u64 p.Hi, .int .u64 p.Lo]
def wf_api_Wide (p : api_Wide) : Prop := (wfI .u64) p.Hi ∧ (wfI .u64) p.Lo

structure api_Fraction where
  Num : api_Wide
  Den : api_Wide
  deriving Inhabited
def enc_api_Fraction (p : api_Fraction) : List AV := [.int .u64 p.Num.Hi, .int .u64 p.Num.Lo, .int .u64 p.Den.Hi, .int .u64 p.Den.Lo]
def wf_api_Fraction (p : api_Fraction) : Prop := wf_api_Wide p.Num ∧ wf_api_Wide p.Den

structure api_Answer where
  Bounds : api_Bounds
  Values : (List Int)
  Fraction : api_Fraction
  deriving Inhabited
def enc_api_Answer (p : api_Answer) : List AV := [.int .i64 p.Bounds.Lo.Num, .int .i64 p.Bounds.Lo.Den, .int .i64 p.Bounds.Est.Num, .int .i64 p.Bounds.Est.Den, .int .i64 p.Bounds.Hi.Num, .int .i64 p.Bounds.Hi.Den, .lst 1 false (List.map (eI .i64) p.Values), .int .u64 p.Fraction.Num.Hi, .int .u64 p.Fraction.Num.Lo, .int .u64 p.Fraction.Den.Hi, .int .u64 p.Fraction.Den.Lo]
def wf_api_Answer (p : api_Answer) : Prop := wf_api_Bounds p.Bounds ∧ (wfL (wfI .i64)) p.Values ∧ wf_api_Fraction p.Fraction

structure api_Entry where
  V : Int
  Min : Int
  Max : Int
  deriving Inhabited
def enc_api_Entry (p : api_Entry) : List AV := [.int .i64 p.V, .int .i64 p.Min, .int .i64 p.Max]
def wf_api_Entry (p : api_Entry) : Prop := (wfI .i64) p.V ∧ (wfI .i64) p.Min ∧ (wfI .i64) p.Max

structure api_Item where
  T : Int
  V : Int
  deriving Inhabited
def enc_api_Item (p : api_Item) : List AV := [.int .i64 p.T, .int .i64 p.V]
def wf_api_Item (p : api_Item) : Prop := (wfI .i64) p.T ∧ (wfI .i64) p.V

structure api_Query where
  Op : Int
  A : Int
  B : Int
  deriving Inhabited
def enc_api_Query (p : api_Query) : List AV := [.int .i64 p.Op, .int .i64 p.A, .int .i64 p.B]
def wf_api_Query (p : api_Query) : Prop := (wfI .i64) p.Op ∧ (wfI .i64) p.A ∧ (wfI .i64) p.B

structure api_Ranks where
  N : Int
  Entries : (List api_Entry)
  deriving Inhabited
def enc_api_Ranks (p : api_Ranks) : List AV := [.int .i64 p.N, .lst 3 false (List.map enc_api_Entry p.Entries)]
def wf_api_Ranks (p : api_Ranks) : Prop := (wfI .i64) p.N ∧ (wfL wf_api_Entry) p.Entries

structure api_Recent where
  W : Int
  Cap : Int
  Now : Int
  Items : (List api_Item)
  deriving Inhabited
def enc_api_Recent (p : api_Recent) : List AV := [.int .i64 p.W, .int .i64 p.Cap, .int .i64 p.Now, .lst 2 false (List.map enc_api_Item p.Items)]
def wf_api_Recent (p : api_Recent) : Prop := (wfI .i64) p.W ∧ (wfI .i64) p.Cap ∧ (wfI .i64) p.Now ∧ (wfL wf_api_Item) p.Items

structure exact_quad where
  e0 : Int
  e1 : Int
  e2 : Int
  e3 : Int
  deriving Inhabited
def enc_exact_quad (p : exact_quad) : List AV := [.int .u64 p.e0, .int .u64 p.e1, .int .u64 p.e2, .int .u64 p.e3]
def wf_exact_quad (p : exact_quad) : Prop := (wfI .u64) p.e0 ∧ (wfI .u64) p.e1 ∧ (wfI .u64) p.e2 ∧ (wfI .u64) p.e3

noncomputable def ratio_size (p0 : Int) : Int :=
  cond (decide (p0 < (0:Int))) (
    (IntKind.u64.wrap (0 - (wu64 p0)))) <|
  (wu64 p0)

noncomputable def wide_Bits (p0 : api_Wide) : Option Int :=
  cond (p0.Hi != (0:Int)) (
    Option.bind (math_bits_Len64 p0.Hi) fun y2_2 =>
    some (w64 ((64:Int) + y2_2))) <|
  Option.bind (math_bits_Len64 p0.Lo) fun y3_2 =>
  some y3_2

noncomputable def wide_Compare (p0 : api_Wide) (p1 : api_Wide) : Int :=
  cond ((decide (p0.Hi < p1.Hi)) || ((p0.Hi == p1.Hi) && (decide (p0.Lo < p1.Lo)))) (
    (-1:Int)) <|
  cond (p0.Hi == p1.Hi && (p0.Lo == p1.Lo && true)) (
    (0:Int)) <|
  (1:Int)

noncomputable def wide_bit (p0 : api_Wide) (p1 : Int) : Option Int :=
  cond (decide (p1 ≥ (64:Int))) (
    ck (decide (0 ≤ (wu64 (w64 (p1 - (64:Int)))))) <|
    some (iand .u64 (ishr .u64 p0.Hi (wu64 (w64 (p1 - (64:Int))))) (1:Int))) <|
  ck (decide (0 ≤ (wu64 p1))) <|
  some (iand .u64 (ishr .u64 p0.Lo (wu64 p1)) (1:Int))

noncomputable def wide_zero (p0 : api_Wide) : Bool :=
  ((p0.Hi == (0:Int)) && (p0.Lo == (0:Int)))

noncomputable def wide_Div_l3s (p0 : api_Wide) (p1 : api_Wide) (v3_9 : Int) (v3_b3x0_0 : Int) (v3_b3x0_1 : Int) (v3_b3x1_0 : Int) (v3_b3x1_1 : Int) : Option ((Int × Int × Int × Int × Int) ⊕ (api_Wide × api_Wide × Bool)) :=
  cond (decide (v3_9 ≥ (0:Int))) (
    Option.bind (wide_bit p0 v3_9) fun y8_12 =>
    let y10_5 := (wide_Compare (api_Wide.mk (ior .u64 (ishl .u64 v3_b3x1_0 (1:Int)) (ishr .u64 v3_b3x1_1 (63:Int))) (ior .u64 (ishl .u64 v3_b3x1_1 (1:Int)) y8_12)) p1);
    cond (((ishr .u64 v3_b3x1_0 (63:Int)) == (1:Int)) || (decide (y10_5 ≥ (0:Int)))) (
      Option.bind (math_bits_Sub64 (ior .u64 (ishl .u64 v3_b3x1_1 (1:Int)) y8_12) p1.Lo (0:Int)) fun y11_4 =>
      Option.bind (math_bits_Sub64 (ior .u64 (ishl .u64 v3_b3x1_0 (1:Int)) (ishr .u64 v3_b3x1_1 (63:Int))) p1.Hi y11_4.2) fun y12_5 =>
      some (.inl ((w64 (v3_9 - (1:Int))), (ior .u64 (ishl .u64 v3_b3x0_0 (1:Int)) (ishr .u64 v3_b3x0_1 (63:Int))), (ior .u64 (ishl .u64 v3_b3x0_1 (1:Int)) (1:Int)), y12_5.1, y11_4.1))) <|
    some (.inl ((w64 (v3_9 - (1:Int))), (ior .u64 (ishl .u64 v3_b3x0_0 (1:Int)) (ishr .u64 v3_b3x0_1 (63:Int))), (ishl .u64 v3_b3x0_1 (1:Int)), (ior .u64 (ishl .u64 v3_b3x1_0 (1:Int)) (ishr .u64 v3_b3x1_1 (63:Int))), (ior .u64 (ishl .u64 v3_b3x1_1 (1:Int)) y8_12)))) <|
  Option.map Sum.inr (some ((api_Wide.mk v3_b3x0_0 v3_b3x0_1), (api_Wide.mk v3_b3x1_0 v3_b3x1_1), true))

noncomputable def wide_Div_l3 (p0 : api_Wide) (p1 : api_Wide) (v3_9 : Int) (v3_b3x0_0 : Int) (v3_b3x0_1 : Int) (v3_b3x1_0 : Int) (v3_b3x1_1 : Int) : Option (api_Wide × api_Wide × Bool) :=
  loop (fun (s : (Int × Int × Int × Int × Int)) => wide_Div_l3s p0 p1 s.1 s.2.1 s.2.2.1 s.2.2.2.1 s.2.2.2.2) (v3_9, v3_b3x0_0, v3_b3x0_1, v3_b3x1_0, v3_b3x1_1)

noncomputable def wide_Div (p0 : api_Wide) (p1 : api_Wide) : Option (api_Wide × api_Wide × Bool) :=
  let y1_1 := (wide_zero p1);
  cond y1_1 (
    some ((api_Wide.mk (0:Int) (0:Int)), (api_Wide.mk (0:Int) (0:Int)), false)) <|
  Option.bind (wide_Bits p0) fun y4_1 =>
  wide_Div_l3 p0 p1 (w64 (y4_1 - (1:Int))) (0:Int) (0:Int) (0:Int) (0:Int)

noncomputable def wide_Gcd_l2s (v2_b0x0_0 : Int) (v2_b0x0_1 : Int) (v2_b0x1_0 : Int) (v2_b0x1_1 : Int) : Option ((Int × Int × Int × Int) ⊕ api_Wide) :=
  let y1_1 := (wide_zero (api_Wide.mk v2_b0x1_0 v2_b0x1_1));
  cond (!y1_1) (
    Option.bind (wide_Div (api_Wide.mk v2_b0x0_0 v2_b0x0_1) (api_Wide.mk v2_b0x1_0 v2_b0x1_1)) fun y2_2 =>
    some (.inl (v2_b0x1_0, v2_b0x1_1, y2_2.2.1.Hi, y2_2.2.1.Lo))) <|
  Option.map Sum.inr (some (api_Wide.mk v2_b0x0_0 v2_b0x0_1))

noncomputable def wide_Gcd_l2 (v2_b0x0_0 : Int) (v2_b0x0_1 : Int) (v2_b0x1_0 : Int) (v2_b0x1_1 : Int) : Option api_Wide :=
  loop (fun (s : (Int × Int × Int × Int)) => wide_Gcd_l2s s.1 s.2.1 s.2.2.1 s.2.2.2) (v2_b0x0_0, v2_b0x0_1, v2_b0x1_0, v2_b0x1_1)

noncomputable def wide_Gcd (p0 : api_Wide) (p1 : api_Wide) : Option api_Wide :=
  wide_Gcd_l2 p0.Hi p0.Lo p1.Hi p1.Lo

noncomputable def wide_Of (p0 : Int) : api_Wide :=
  (api_Wide.mk (0:Int) p0)

noncomputable def ratio_Valid (p0 : api_Ratio) : Option Bool :=
  let y1_6 := (ratio_size p0.Num);
  let y1_7 := (wide_Of y1_6);
  let y1_11 := (wide_Of (wu64 p0.Den));
  Option.bind (gd (decide (p0.Den ≥ (1:Int))) (wide_Gcd y1_7 y1_11)) fun y1_12 =>
  let y1_13 := (wide_Of (1:Int));
  some ((decide (p0.Den ≥ (1:Int))) && (y1_12.Hi == y1_13.Hi && (y1_12.Lo == y1_13.Lo && true)))

noncomputable def bounds_Exact (p0 : api_Ratio) : Option api_Bounds :=
  Option.bind (ratio_Valid p0) fun y1_1 =>
  cond (!y1_1) (
    some (api_Bounds.mk (api_Ratio.mk (0:Int) (0:Int)) (api_Ratio.mk (0:Int) (0:Int)) (api_Ratio.mk (0:Int) (0:Int)))) <|
  some (api_Bounds.mk p0 p0 p0)

noncomputable def ratio_Of (p0 : Int) : api_Ratio :=
  (api_Ratio.mk p0 (1:Int))

noncomputable def bounds_Whole (p0 : Int) (p1 : Int) : (api_Bounds × Bool) :=
  cond (decide (p0 > p1)) (
    ((api_Bounds.mk (api_Ratio.mk (0:Int) (0:Int)) (api_Ratio.mk (0:Int) (0:Int)) (api_Ratio.mk (0:Int) (0:Int))), false)) <|
  let y4_1 := (ratio_Of p0);
  let y4_3 := (ratio_Of (w64 ((iand .i64 p0 p1) + (ishr .i64 (ixor .i64 p0 p1) (1:Int)))));
  let y4_5 := (ratio_Of p1);
  ((api_Bounds.mk y4_1 y4_3 y4_5), true)

noncomputable def clock_tick (p0 : Int) : Bool :=
  ((decide (p0 ≥ (0:Int))) && (decide (p0 ≤ (16777216:Int))))

noncomputable def clock_Advance (p0 : Int) (p1 : Int) : (Int × Int) :=
  let y1_1 := (clock_tick p0);
  cond (!y1_1) (
    ((0:Int), (1:Int))) <|
  cond ((decide (p1 < p0)) || (decide (p1 > (16777216:Int)))) (
    ((0:Int), (3:Int))) <|
  (p1, (0:Int))

noncomputable def clock_First (p0 : Int) (p1 : Int) : Int :=
  let y1_1 := (clock_tick p0);
  cond (((!y1_1) || (decide (p1 < (1:Int)))) || (decide (p1 > (1048576:Int)))) (
    (-1:Int)) <|
  (imax (0:Int) (w64 ((w64 (p0 - p1)) + (1:Int))))

noncomputable def clock_Live (p0 : Int) (p1 : Int) (p2 : Int) : Bool :=
  let y1_2 := (clock_First p0 p1);
  let y2_4 := (clock_tick p2);
  ((((decide (y1_2 ≥ (0:Int))) && y2_4) && (decide (y1_2 ≤ p2))) && (decide (p2 ≤ p0)))

noncomputable def exact_Below_l2s (p0 : (List api_Item)) (p1 : Int) (v2_5 : Int) (v2_10 : Int) : Option ((Int × Int) ⊕ Int) :=
  cond (decide (v2_10 < (p0.length : Int))) (
    Option.bind (idx p0 v2_10) fun x4_0 =>
    cond (decide (x4_0.V < p1)) (
      some (.inl ((w64 (v2_5 + (1:Int))), (w64 (v2_10 + (1:Int)))))) <|
    some (.inl (v2_5, (w64 (v2_10 + (1:Int)))))) <|
  Option.map Sum.inr (some v2_5)

noncomputable def exact_Below_l2 (p0 : (List api_Item)) (p1 : Int) (v2_5 : Int) (v2_10 : Int) : Option Int :=
  loop (fun (s : (Int × Int)) => exact_Below_l2s p0 p1 s.1 s.2) (v2_5, v2_10)

noncomputable def exact_Below (p0 : (List api_Item)) (p1 : Int) : Option Int :=
  exact_Below_l2 p0 p1 (0:Int) (0:Int)

noncomputable def exact_Count (p0 : (List api_Item)) : Int :=
  (p0.length : Int)

noncomputable def exact_Greatest_l3s (p0 : (List api_Item)) (v3_4 : Int) (v3_16 : Int) : Option ((Int × Int) ⊕ (Int × Bool)) :=
  cond (decide (v3_16 < (p0.length : Int))) (
    Option.bind (idx p0 v3_16) fun x6_0 =>
    some (.inl ((imax v3_4 x6_0.V), (w64 (v3_16 + (1:Int)))))) <|
  Option.map Sum.inr (some (v3_4, true))

noncomputable def exact_Greatest_l3 (p0 : (List api_Item)) (v3_4 : Int) (v3_16 : Int) : Option (Int × Bool) :=
  loop (fun (s : (Int × Int)) => exact_Greatest_l3s p0 s.1 s.2) (v3_4, v3_16)

noncomputable def exact_Greatest (p0 : (List api_Item)) : Option (Int × Bool) :=
  cond ((p0.length : Int) == (0:Int)) (
    some ((0:Int), false)) <|
  Option.bind (idx p0 (0:Int)) fun x3_1 =>
  exact_Greatest_l3 p0 x3_1.V (0:Int)

noncomputable def exact_Least_l3s (p0 : (List api_Item)) (v3_4 : Int) (v3_16 : Int) : Option ((Int × Int) ⊕ (Int × Bool)) :=
  cond (decide (v3_16 < (p0.length : Int))) (
    Option.bind (idx p0 v3_16) fun x6_0 =>
    some (.inl ((imin v3_4 x6_0.V), (w64 (v3_16 + (1:Int)))))) <|
  Option.map Sum.inr (some (v3_4, true))

noncomputable def exact_Least_l3 (p0 : (List api_Item)) (v3_4 : Int) (v3_16 : Int) : Option (Int × Bool) :=
  loop (fun (s : (Int × Int)) => exact_Least_l3s p0 s.1 s.2) (v3_4, v3_16)

noncomputable def exact_Least (p0 : (List api_Item)) : Option (Int × Bool) :=
  cond ((p0.length : Int) == (0:Int)) (
    some ((0:Int), false)) <|
  Option.bind (idx p0 (0:Int)) fun x3_1 =>
  exact_Least_l3 p0 x3_1.V (0:Int)

noncomputable def exact_Live_l3s (p0 : (List api_Item)) (p1 : Int) (p2 : Int) (v3_7 : (List api_Item)) (v3_16 : Int) : Option (((List api_Item) × Int) ⊕ (List api_Item)) :=
  cond (decide (v3_16 < (p0.length : Int))) (
    Option.bind (idx p0 v3_16) fun x6_0 =>
    let y7_4 := (clock_Live p1 p2 x6_0.T);
    cond y7_4 (
      ck (decide ((v3_7.length + [x6_0].length) * 16 ≤ 140737488355328)) <|
      some (.inl ((v3_7 ++ [x6_0]), (w64 (v3_16 + (1:Int)))))) <|
    some (.inl (v3_7, (w64 (v3_16 + (1:Int)))))) <|
  Option.map Sum.inr (some v3_7)

noncomputable def exact_Live_l3 (p0 : (List api_Item)) (p1 : Int) (p2 : Int) (v3_7 : (List api_Item)) (v3_16 : Int) : Option (List api_Item) :=
  loop (fun (s : ((List api_Item) × Int)) => exact_Live_l3s p0 p1 p2 s.1 s.2) (v3_7, v3_16)

noncomputable def exact_tick (p0 : Int) : Bool :=
  ((decide (p0 ≥ (0:Int))) && (decide (p0 ≤ (16777216:Int))))

noncomputable def exact_Valid_l3s (p0 : (List api_Item)) (p1 : Int) (v3_12 : Int) : Option (Int ⊕ Bool) :=
  cond (decide (v3_12 < (p0.length : Int))) (
    Option.bind (idx p0 v3_12) fun x5_1 =>
    Option.bind (gd ((!((decide (x5_1.T < (0:Int))) || (decide (x5_1.T > p1)))) && (decide (v3_12 > (0:Int)))) (idx p0 (w64 (v3_12 - (1:Int))))) fun x6_16 =>
    cond (((decide (x5_1.T < (0:Int))) || (decide (x5_1.T > p1))) || ((decide (v3_12 > (0:Int))) && (decide (x6_16.T > x5_1.T)))) (
      some (.inr false)) <|
    some (.inl (w64 (v3_12 + (1:Int))))) <|
  Option.map Sum.inr (some true)

noncomputable def exact_Valid_l3 (p0 : (List api_Item)) (p1 : Int) (v3_12 : Int) : Option Bool :=
  loop (fun (s : Int) => exact_Valid_l3s p0 p1 s) v3_12

noncomputable def exact_Valid (p0 : (List api_Item)) (p1 : Int) : Option Bool :=
  let y1_1 := (exact_tick p1);
  cond (!y1_1) (
    some false) <|
  exact_Valid_l3 p0 p1 (0:Int)

noncomputable def exact_Live (p0 : (List api_Item)) (p1 : Int) (p2 : Int) : Option (List api_Item) :=
  Option.bind (exact_Valid p0 p1) fun y1_2 =>
  cond (!y1_2) (
    some ([] : List api_Item)) <|
  exact_Live_l3 p0 p1 p2 ([] : List api_Item) (0:Int)

noncomputable def wide_Add (p0 : api_Wide) (p1 : api_Wide) : Option (api_Wide × Bool) :=
  Option.bind (math_bits_Add64 p0.Lo p1.Lo (0:Int)) fun y1_4 =>
  Option.bind (math_bits_Add64 p0.Hi p1.Hi y1_4.2) fun y2_5 =>
  cond (y2_5.2 != (0:Int)) (
    some ((api_Wide.mk (0:Int) (0:Int)), false)) <|
  some ((api_Wide.mk y2_5.1 y1_4.1), true)

noncomputable def math_bits_Mul64 (p0 : Int) (p1 : Int) : (Int × Int) :=
  ((wu64 ((wu64 ((wu64 ((ishr .u64 p0 (32:Int)) * (ishr .u64 p1 (32:Int)))) + (ishr .u64 (wu64 ((wu64 ((ishr .u64 p0 (32:Int)) * (iand .u64 p1 (4294967295:Int)))) + (ishr .u64 (wu64 ((iand .u64 p0 (4294967295:Int)) * (iand .u64 p1 (4294967295:Int)))) (32:Int)))) (32:Int)))) + (ishr .u64 (wu64 ((iand .u64 (wu64 ((wu64 ((ishr .u64 p0 (32:Int)) * (iand .u64 p1 (4294967295:Int)))) + (ishr .u64 (wu64 ((iand .u64 p0 (4294967295:Int)) * (iand .u64 p1 (4294967295:Int)))) (32:Int)))) (4294967295:Int)) + (wu64 ((iand .u64 p0 (4294967295:Int)) * (ishr .u64 p1 (32:Int)))))) (32:Int)))), (wu64 (p0 * p1)))

noncomputable def wide_Product (p0 : Int) (p1 : Int) : api_Wide :=
  let y1_2 := (math_bits_Mul64 p0 p1);
  (api_Wide.mk y1_2.1 y1_2.2)

noncomputable def wide_Mul_j2 (j2_b0x0_0 : Int) (j2_b0x0_1 : Int) (j2_b0x1_0 : Int) (j2_b0x1_1 : Int) : Option (api_Wide × Bool) :=
  let y5_4 := (wide_Product j2_b0x0_1 j2_b0x1_1);
  let y5_9 := (wide_Product j2_b0x0_1 j2_b0x1_0);
  cond (y5_9.Hi != (0:Int)) (
    some ((api_Wide.mk (0:Int) (0:Int)), false)) <|
  Option.bind (wide_Add y5_4 (api_Wide.mk y5_9.Lo (0:Int))) fun y8_4 =>
  some (y8_4.1, y8_4.2)

noncomputable def wide_Mul (p0 : api_Wide) (p1 : api_Wide) : Option (api_Wide × Bool) :=
  cond ((p0.Hi != (0:Int)) && (p1.Hi != (0:Int))) (
    some ((api_Wide.mk (0:Int) (0:Int)), false)) <|
  cond (p0.Hi != (0:Int)) (
    wide_Mul_j2 p1.Hi p1.Lo p0.Hi p0.Lo) <|
  wide_Mul_j2 p0.Hi p0.Lo p1.Hi p1.Lo

noncomputable def wide_Pow_l5s (p0 : Int) (v5_1 : Int) (v5_b7x1_0 : Int) (v5_b7x1_1 : Int) : Option ((Int × Int × Int) ⊕ (api_Wide × Bool)) :=
  cond (decide (v5_1 > (0:Int))) (
    let y10_2 := (wide_Of p0);
    Option.bind (wide_Mul (api_Wide.mk v5_b7x1_0 v5_b7x1_1) y10_2) fun y10_3 =>
    cond (!y10_3.2) (
      some (.inr ((api_Wide.mk (0:Int) (0:Int)), false))) <|
    some (.inl ((w64 (v5_1 - (1:Int))), y10_3.1.Hi, y10_3.1.Lo))) <|
  Option.map Sum.inr (some ((api_Wide.mk v5_b7x1_0 v5_b7x1_1), true))

noncomputable def wide_Pow_l5 (p0 : Int) (v5_1 : Int) (v5_b7x1_0 : Int) (v5_b7x1_1 : Int) : Option (api_Wide × Bool) :=
  loop (fun (s : (Int × Int × Int)) => wide_Pow_l5s p0 s.1 s.2.1 s.2.2) (v5_1, v5_b7x1_0, v5_b7x1_1)

noncomputable def wide_Pow (p0 : Int) (p1 : Int) : Option (api_Wide × Bool) :=
  cond (decide (p1 < (0:Int))) (
    some ((api_Wide.mk (0:Int) (0:Int)), false)) <|
  cond (decide (p0 ≤ (1:Int))) (
    cond ((p0 == (0:Int)) && (decide (p1 > (0:Int)))) (
      some ((api_Wide.mk (0:Int) (0:Int)), true)) <|
    let y6_0 := (wide_Of (1:Int));
    some (y6_0, true)) <|
  let y7_0 := (wide_Of (1:Int));
  wide_Pow_l5 p0 p1 y7_0.Hi y7_0.Lo

noncomputable def exact_Poly_l3s (p0 : (List api_Item)) (p1 : Int) (p2 : Int) (v3_29 : Int) (v3_b3x0_0 : Int) (v3_b3x0_1 : Int) : Option ((Int × Int × Int) ⊕ (api_Wide × Bool)) :=
  cond (decide (v3_29 < (p0.length : Int))) (
    Option.bind (idx p0 v3_29) fun x6_0 =>
    let y7_6 := (exact_tick x6_0.T);
    cond (((decide (x6_0.V < (0:Int))) || (!y7_6)) || (decide (x6_0.T < p1))) (
      some (.inr ((api_Wide.mk (0:Int) (0:Int)), false))) <|
    Option.bind (wide_Pow (wu64 (w64 ((w64 (x6_0.T - p1)) + (1:Int)))) p2) fun y9_7 =>
    let y10_4 := (wide_Of (wu64 x6_0.V));
    Option.bind (wide_Mul y9_7.1 y10_4) fun y10_5 =>
    cond (!y10_5.2) (
      some (.inr ((api_Wide.mk (0:Int) (0:Int)), false))) <|
    Option.bind (wide_Add (api_Wide.mk v3_b3x0_0 v3_b3x0_1) y10_5.1) fun y13_2 =>
    cond (!y13_2.2) (
      some (.inr ((api_Wide.mk (0:Int) (0:Int)), false))) <|
    some (.inl ((w64 (v3_29 + (1:Int))), y13_2.1.Hi, y13_2.1.Lo))) <|
  Option.map Sum.inr (some ((api_Wide.mk v3_b3x0_0 v3_b3x0_1), true))

noncomputable def exact_Poly_l3 (p0 : (List api_Item)) (p1 : Int) (p2 : Int) (v3_29 : Int) (v3_b3x0_0 : Int) (v3_b3x0_1 : Int) : Option (api_Wide × Bool) :=
  loop (fun (s : (Int × Int × Int)) => exact_Poly_l3s p0 p1 p2 s.1 s.2.1 s.2.2) (v3_29, v3_b3x0_0, v3_b3x0_1)

noncomputable def exact_Poly (p0 : (List api_Item)) (p1 : Int) (p2 : Int) : Option (api_Wide × Bool) :=
  let y1_8 := (exact_tick p1);
  cond (((decide (p2 < (0:Int))) || (decide (p2 > (4:Int)))) || (!y1_8)) (
    some ((api_Wide.mk (0:Int) (0:Int)), false)) <|
  exact_Poly_l3 p0 p1 p2 (0:Int) (0:Int) (0:Int)

noncomputable def exact_Quantile_l4s (p0 : (List api_Item)) (j2_b3x14_1 : Int) (v4_11 : (List Int)) (v4_53 : Int) : Option (((List Int) × Int) ⊕ (Int × Bool)) :=
  cond (decide (v4_53 < (p0.length : Int))) (
    Option.bind (idx p0 v4_53) fun x9_0 =>
    ck (decide ((v4_11.length + [x9_0.V].length) * 8 ≤ 140737488355328)) <|
    some (.inl ((v4_11 ++ [x9_0.V]), (w64 (v4_53 + (1:Int)))))) <|
  Option.map Sum.inr (ck (decide (v4_11.length < 4611686018427387904)) <|
  Option.bind (idx (sortZ v4_11) (w64 ((imax (w64 j2_b3x14_1) (1:Int)) - (1:Int)))) fun x13_6 =>
  Option.bind (idx (sortZ v4_11) (w64 ((imax (w64 j2_b3x14_1) (1:Int)) - (1:Int)))) fun x13_7 =>
  some (x13_7, true))

noncomputable def exact_Quantile_l4 (p0 : (List api_Item)) (j2_b3x14_1 : Int) (v4_11 : (List Int)) (v4_53 : Int) : Option (Int × Bool) :=
  loop (fun (s : ((List Int) × Int)) => exact_Quantile_l4s p0 j2_b3x14_1 s.1 s.2) (v4_11, v4_53)

noncomputable def exact_Quantile_j2 (p0 : (List api_Item)) (j2_b3x14_1 : Int) : Option (Int × Bool) :=
  exact_Quantile_l4 p0 j2_b3x14_1 ([] : List Int) (0:Int)

noncomputable def exact_Quantile (p0 : (List api_Item)) (p1 : Int) (p2 : Int) : Option (Int × Bool) :=
  cond (((((p0.length : Int) == (0:Int)) || (decide (p2 < (1:Int)))) || (decide (p1 < (0:Int)))) || (decide (p1 > p2))) (
    some ((0:Int), false)) <|
  let y3_5 := (wide_Product (wu64 p1) (wu64 (p0.length : Int)));
  let y3_8 := (wide_Of (wu64 p2));
  Option.bind (wide_Div y3_5 y3_8) fun y3_9 =>
  cond (!(y3_9.2.1.Hi == (0:Int) && (y3_9.2.1.Lo == (0:Int) && true))) (
    exact_Quantile_j2 p0 (wu64 (y3_9.1.Lo + (1:Int)))) <|
  exact_Quantile_j2 p0 y3_9.1.Lo

noncomputable def exact_Rank_l2s (p0 : (List api_Item)) (p1 : Int) (v2_5 : Int) (v2_10 : Int) : Option ((Int × Int) ⊕ Int) :=
  cond (decide (v2_10 < (p0.length : Int))) (
    Option.bind (idx p0 v2_10) fun x4_0 =>
    cond (decide (x4_0.V ≤ p1)) (
      some (.inl ((w64 (v2_5 + (1:Int))), (w64 (v2_10 + (1:Int)))))) <|
    some (.inl (v2_5, (w64 (v2_10 + (1:Int)))))) <|
  Option.map Sum.inr (some v2_5)

noncomputable def exact_Rank_l2 (p0 : (List api_Item)) (p1 : Int) (v2_5 : Int) (v2_10 : Int) : Option Int :=
  loop (fun (s : (Int × Int)) => exact_Rank_l2s p0 p1 s.1 s.2) (v2_5, v2_10)

noncomputable def exact_Rank (p0 : (List api_Item)) (p1 : Int) : Option Int :=
  exact_Rank_l2 p0 p1 (0:Int) (0:Int)

noncomputable def math_bits_LeadingZeros64 (p0 : Int) : Option Int :=
  Option.bind (math_bits_Len64 p0) fun y1_1 =>
  some (w64 ((64:Int) - y1_1))

noncomputable def math_bits_Div64_j9 (p0 : Int) (p1 : Int) (p2 : Int) (y7_1 : Int) (j4_15 : Int) (j9_18 : Int) : Option (Int × Int) :=
  ck (decide (0 ≤ (wu64 y7_1))) <|
  some ((wu64 ((wu64 (j4_15 * (4294967296:Int))) + j9_18)), (ishr .u64 (wu64 ((wu64 ((wu64 ((wu64 ((wu64 ((wu64 ((ior .u64 (ishl .u64 p0 (wu64 y7_1)) (ishr .u64 p1 (wu64 ((64:Int) - (wu64 y7_1))))) * (4294967296:Int))) + (ishr .u64 (ishl .u64 p1 (wu64 y7_1)) (32:Int)))) - (wu64 (j4_15 * (ishl .u64 p2 (wu64 y7_1)))))) * (4294967296:Int))) + (iand .u64 (ishl .u64 p1 (wu64 y7_1)) (4294967295:Int)))) - (wu64 (j9_18 * (ishl .u64 p2 (wu64 y7_1)))))) (wu64 y7_1)))

noncomputable def math_bits_Div64_l10s (p0 : Int) (p1 : Int) (p2 : Int) (y7_1 : Int) (j4_15 : Int) (v10_16 : Int) (v10_18 : Int) : Option ((Int × Int) ⊕ (Int × Int)) :=
  cond ((decide (v10_18 ≥ (4294967296:Int))) || (decide ((wu64 (v10_18 * (iand .u64 (ishl .u64 p2 (wu64 y7_1)) (4294967295:Int)))) > (wu64 ((wu64 ((4294967296:Int) * v10_16)) + (iand .u64 (ishl .u64 p1 (wu64 y7_1)) (4294967295:Int))))))) (
    cond (decide ((wu64 (v10_16 + (ishr .u64 (ishl .u64 p2 (wu64 y7_1)) (32:Int)))) ≥ (4294967296:Int))) (
      Option.map Sum.inr (math_bits_Div64_j9 p0 p1 p2 y7_1 j4_15 (wu64 (v10_18 - (1:Int))))) <|
    some (.inl ((wu64 (v10_16 + (ishr .u64 (ishl .u64 p2 (wu64 y7_1)) (32:Int)))), (wu64 (v10_18 - (1:Int)))))) <|
  Option.map Sum.inr (math_bits_Div64_j9 p0 p1 p2 y7_1 j4_15 v10_18)

noncomputable def math_bits_Div64_l10 (p0 : Int) (p1 : Int) (p2 : Int) (y7_1 : Int) (j4_15 : Int) (v10_16 : Int) (v10_18 : Int) : Option (Int × Int) :=
  loop (fun (s : (Int × Int)) => math_bits_Div64_l10s p0 p1 p2 y7_1 j4_15 s.1 s.2) (v10_16, v10_18)

noncomputable def math_bits_Div64_j4 (p0 : Int) (p1 : Int) (p2 : Int) (y7_1 : Int) (j4_15 : Int) : Option (Int × Int) :=
  ck (decide ((ishr .u64 (ishl .u64 p2 (wu64 y7_1)) (32:Int)) ≠ 0)) <|
  math_bits_Div64_l10 p0 p1 p2 y7_1 j4_15 (wu64 ((wu64 ((wu64 ((wu64 ((ior .u64 (ishl .u64 p0 (wu64 y7_1)) (ishr .u64 p1 (wu64 ((64:Int) - (wu64 y7_1))))) * (4294967296:Int))) + (ishr .u64 (ishl .u64 p1 (wu64 y7_1)) (32:Int)))) - (wu64 (j4_15 * (ishl .u64 p2 (wu64 y7_1)))))) - (wu64 ((wu64 (Int.tdiv (wu64 ((wu64 ((wu64 ((ior .u64 (ishl .u64 p0 (wu64 y7_1)) (ishr .u64 p1 (wu64 ((64:Int) - (wu64 y7_1))))) * (4294967296:Int))) + (ishr .u64 (ishl .u64 p1 (wu64 y7_1)) (32:Int)))) - (wu64 (j4_15 * (ishl .u64 p2 (wu64 y7_1)))))) (ishr .u64 (ishl .u64 p2 (wu64 y7_1)) (32:Int)))) * (ishr .u64 (ishl .u64 p2 (wu64 y7_1)) (32:Int)))))) (wu64 (Int.tdiv (wu64 ((wu64 ((wu64 ((ior .u64 (ishl .u64 p0 (wu64 y7_1)) (ishr .u64 p1 (wu64 ((64:Int) - (wu64 y7_1))))) * (4294967296:Int))) + (ishr .u64 (ishl .u64 p1 (wu64 y7_1)) (32:Int)))) - (wu64 (j4_15 * (ishl .u64 p2 (wu64 y7_1)))))) (ishr .u64 (ishl .u64 p2 (wu64 y7_1)) (32:Int))))

noncomputable def math_bits_Div64_l5s (p0 : Int) (p1 : Int) (p2 : Int) (y7_1 : Int) (v5_15 : Int) (v5_16 : Int) : Option ((Int × Int) ⊕ (Int × Int)) :=
  cond ((decide (v5_15 ≥ (4294967296:Int))) || (decide ((wu64 (v5_15 * (iand .u64 (ishl .u64 p2 (wu64 y7_1)) (4294967295:Int)))) > (wu64 ((wu64 ((4294967296:Int) * v5_16)) + (ishr .u64 (ishl .u64 p1 (wu64 y7_1)) (32:Int))))))) (
    cond (decide ((wu64 (v5_16 + (ishr .u64 (ishl .u64 p2 (wu64 y7_1)) (32:Int)))) ≥ (4294967296:Int))) (
      Option.map Sum.inr (math_bits_Div64_j4 p0 p1 p2 y7_1 (wu64 (v5_15 - (1:Int))))) <|
    some (.inl ((wu64 (v5_15 - (1:Int))), (wu64 (v5_16 + (ishr .u64 (ishl .u64 p2 (wu64 y7_1)) (32:Int))))))) <|
  Option.map Sum.inr (math_bits_Div64_j4 p0 p1 p2 y7_1 v5_15)

noncomputable def math_bits_Div64_l5 (p0 : Int) (p1 : Int) (p2 : Int) (y7_1 : Int) (v5_15 : Int) (v5_16 : Int) : Option (Int × Int) :=
  loop (fun (s : (Int × Int)) => math_bits_Div64_l5s p0 p1 p2 y7_1 s.1 s.2) (v5_15, v5_16)

noncomputable def math_bits_Div64 (p0 : Int) (p1 : Int) (p2 : Int) : Option (Int × Int) :=
  cond (p2 == (0:Int)) (
    none) <|
  cond (decide (p2 ≤ p0)) (
    none) <|
  cond (p0 == (0:Int)) (
    ck (decide (p2 ≠ 0)) <|
    ck (decide (p2 ≠ 0)) <|
    some ((wu64 (Int.tdiv p1 p2)), (Int.tmod p1 p2))) <|
  Option.bind (math_bits_LeadingZeros64 p2) fun y7_1 =>
  ck (decide (0 ≤ (wu64 y7_1))) <|
  ck (decide (0 ≤ (wu64 y7_1))) <|
  ck (decide (0 ≤ (wu64 ((64:Int) - (wu64 y7_1))))) <|
  ck (decide (0 ≤ (wu64 y7_1))) <|
  ck (decide ((ishr .u64 (ishl .u64 p2 (wu64 y7_1)) (32:Int)) ≠ 0)) <|
  math_bits_Div64_l5 p0 p1 p2 y7_1 (wu64 (Int.tdiv (ior .u64 (ishl .u64 p0 (wu64 y7_1)) (ishr .u64 p1 (wu64 ((64:Int) - (wu64 y7_1))))) (ishr .u64 (ishl .u64 p2 (wu64 y7_1)) (32:Int)))) (wu64 ((ior .u64 (ishl .u64 p0 (wu64 y7_1)) (ishr .u64 p1 (wu64 ((64:Int) - (wu64 y7_1))))) - (wu64 ((wu64 (Int.tdiv (ior .u64 (ishl .u64 p0 (wu64 y7_1)) (ishr .u64 p1 (wu64 ((64:Int) - (wu64 y7_1))))) (ishr .u64 (ishl .u64 p2 (wu64 y7_1)) (32:Int)))) * (ishr .u64 (ishl .u64 p2 (wu64 y7_1)) (32:Int))))))

noncomputable def exact_by_l2s (p1 : Int) (v2_6 : Int) (v2_7 : Int) (v2_b0x0_0 : Int) (v2_b0x0_1 : Int) (v2_b0x0_2 : Int) (v2_b0x0_3 : Int) : Option ((Int × Int × Int × Int × Int × Int) ⊕ (exact_quad × Int)) :=
  cond (decide (v2_7 ≥ (0:Int))) (
    Option.bind (idx [v2_b0x0_0, v2_b0x0_1, v2_b0x0_2, v2_b0x0_3] v2_7) fun x5_3 =>
    Option.bind (idx [v2_b0x0_0, v2_b0x0_1, v2_b0x0_2, v2_b0x0_3] v2_7) fun x5_4 =>
    Option.bind (math_bits_Div64 v2_6 x5_4 p1) fun y5_6 =>
    Option.bind (idx [v2_b0x0_0, v2_b0x0_1, v2_b0x0_2, v2_b0x0_3] v2_7) fun x5_10 =>
    Option.bind (idx [v2_b0x0_0, v2_b0x0_1, v2_b0x0_2, v2_b0x0_3] v2_7) fun x5_11 =>
    some (.inl (y5_6.2, (w64 (v2_7 - (1:Int))), (if (v2_7).toNat = 0 then y5_6.1 else v2_b0x0_0), (if (v2_7).toNat = 1 then y5_6.1 else v2_b0x0_1), (if (v2_7).toNat = 2 then y5_6.1 else v2_b0x0_2), (if (v2_7).toNat = 3 then y5_6.1 else v2_b0x0_3)))) <|
  Option.map Sum.inr (some ((exact_quad.mk v2_b0x0_0 v2_b0x0_1 v2_b0x0_2 v2_b0x0_3), v2_6))

noncomputable def exact_by_l2 (p1 : Int) (v2_6 : Int) (v2_7 : Int) (v2_b0x0_0 : Int) (v2_b0x0_1 : Int) (v2_b0x0_2 : Int) (v2_b0x0_3 : Int) : Option (exact_quad × Int) :=
  loop (fun (s : (Int × Int × Int × Int × Int × Int)) => exact_by_l2s p1 s.1 s.2.1 s.2.2.1 s.2.2.2.1 s.2.2.2.2.1 s.2.2.2.2.2) (v2_6, v2_7, v2_b0x0_0, v2_b0x0_1, v2_b0x0_2, v2_b0x0_3)

noncomputable def exact_by (p0 : exact_quad) (p1 : Int) : Option (exact_quad × Int) :=
  exact_by_l2 p1 (0:Int) (3:Int) p0.e0 p0.e1 p0.e2 p0.e3

noncomputable def exact_minus_l2s (p1 : exact_quad) (v2_5 : Int) (v2_7 : Int) (v2_b0x0_0 : Int) (v2_b0x0_1 : Int) (v2_b0x0_2 : Int) (v2_b0x0_3 : Int) : Option ((Int × Int × Int × Int × Int × Int) ⊕ exact_quad) :=
  cond (decide (v2_7 < (4:Int))) (
    Option.bind (idx [v2_b0x0_0, v2_b0x0_1, v2_b0x0_2, v2_b0x0_3] v2_7) fun x5_2 =>
    Option.bind (idx [v2_b0x0_0, v2_b0x0_1, v2_b0x0_2, v2_b0x0_3] v2_7) fun x5_3 =>
    Option.bind (idx [p1.e0, p1.e1, p1.e2, p1.e3] v2_7) fun x5_5 =>
    Option.bind (idx [p1.e0, p1.e1, p1.e2, p1.e3] v2_7) fun x5_6 =>
    Option.bind (math_bits_Sub64 x5_3 x5_6 v2_5) fun y5_8 =>
    Option.bind (idx [v2_b0x0_0, v2_b0x0_1, v2_b0x0_2, v2_b0x0_3] v2_7) fun x5_12 =>
    Option.bind (idx [v2_b0x0_0, v2_b0x0_1, v2_b0x0_2, v2_b0x0_3] v2_7) fun x5_13 =>
    some (.inl (y5_8.2, (w64 (v2_7 + (1:Int))), (if (v2_7).toNat = 0 then y5_8.1 else v2_b0x0_0), (if (v2_7).toNat = 1 then y5_8.1 else v2_b0x0_1), (if (v2_7).toNat = 2 then y5_8.1 else v2_b0x0_2), (if (v2_7).toNat = 3 then y5_8.1 else v2_b0x0_3)))) <|
  Option.map Sum.inr (some (exact_quad.mk v2_b0x0_0 v2_b0x0_1 v2_b0x0_2 v2_b0x0_3))

noncomputable def exact_minus_l2 (p1 : exact_quad) (v2_5 : Int) (v2_7 : Int) (v2_b0x0_0 : Int) (v2_b0x0_1 : Int) (v2_b0x0_2 : Int) (v2_b0x0_3 : Int) : Option exact_quad :=
  loop (fun (s : (Int × Int × Int × Int × Int × Int)) => exact_minus_l2s p1 s.1 s.2.1 s.2.2.1 s.2.2.2.1 s.2.2.2.2.1 s.2.2.2.2.2) (v2_5, v2_7, v2_b0x0_0, v2_b0x0_1, v2_b0x0_2, v2_b0x0_3)

noncomputable def exact_minus (p0 : exact_quad) (p1 : exact_quad) : Option exact_quad :=
  exact_minus_l2 p1 (0:Int) (0:Int) p0.e0 p0.e1 p0.e2 p0.e3

noncomputable def exact_quad_times_l2s (v2_8 : Int) (v2_10 : Int) (v2_11 : Int) (v2_b0_0 : Int) (v2_b0_1 : Int) (v2_b0_2 : Int) (v2_b0_3 : Int) : Option ((Int × Int × Int × Int × Int × Int × Int) ⊕ exact_quad) :=
  cond (decide (v2_11 < (4:Int))) (
    Option.bind (idx [v2_b0_0, v2_b0_1, v2_b0_2, v2_b0_3] v2_11) fun x6_5 =>
    Option.bind (idx [v2_b0_0, v2_b0_1, v2_b0_2, v2_b0_3] v2_11) fun x6_6 =>
    Option.bind (math_bits_Add64 x6_6 v2_8 v2_10) fun y6_9 =>
    Option.bind (idx [v2_b0_0, v2_b0_1, v2_b0_2, v2_b0_3] v2_11) fun x6_14 =>
    Option.bind (idx [v2_b0_0, v2_b0_1, v2_b0_2, v2_b0_3] v2_11) fun x6_15 =>
    some (.inl ((0:Int), y6_9.2, (w64 (v2_11 + (1:Int))), (if (v2_11).toNat = 0 then y6_9.1 else v2_b0_0), (if (v2_11).toNat = 1 then y6_9.1 else v2_b0_1), (if (v2_11).toNat = 2 then y6_9.1 else v2_b0_2), (if (v2_11).toNat = 3 then y6_9.1 else v2_b0_3)))) <|
  Option.map Sum.inr (some (exact_quad.mk v2_b0_0 v2_b0_1 v2_b0_2 v2_b0_3))

noncomputable def exact_quad_times_l2 (v2_8 : Int) (v2_10 : Int) (v2_11 : Int) (v2_b0_0 : Int) (v2_b0_1 : Int) (v2_b0_2 : Int) (v2_b0_3 : Int) : Option exact_quad :=
  loop (fun (s : (Int × Int × Int × Int × Int × Int × Int)) => exact_quad_times_l2s s.1 s.2.1 s.2.2.1 s.2.2.2.1 s.2.2.2.2.1 s.2.2.2.2.2.1 s.2.2.2.2.2.2) (v2_8, v2_10, v2_11, v2_b0_0, v2_b0_1, v2_b0_2, v2_b0_3)

noncomputable def exact_quad_times (p0 : exact_quad) (p1 : Int) (p2 : Int) (p3 : Int) : Option exact_quad :=
  let y0_2 := (math_bits_Mul64 p1 p2);
  Option.bind (idx [p0.e0, p0.e1, p0.e2, p0.e3] p3) fun x2_5 =>
  Option.bind (idx [p0.e0, p0.e1, p0.e2, p0.e3] p3) fun x2_6 =>
  Option.bind (math_bits_Add64 x2_6 y0_2.2 (0:Int)) fun y2_8 =>
  Option.bind (idx [p0.e0, p0.e1, p0.e2, p0.e3] p3) fun x2_13 =>
  Option.bind (idx [p0.e0, p0.e1, p0.e2, p0.e3] p3) fun x2_14 =>
  exact_quad_times_l2 y0_2.1 y2_8.2 (w64 (p3 + (1:Int))) (if (p3).toNat = 0 then y2_8.1 else p0.e0) (if (p3).toNat = 1 then y2_8.1 else p0.e1) (if (p3).toNat = 2 then y2_8.1 else p0.e2) (if (p3).toNat = 3 then y2_8.1 else p0.e3)

noncomputable def exact_size (p0 : Int) : Int :=
  cond (decide (p0 < (0:Int))) (
    (IntKind.u64.wrap (0 - (wu64 p0)))) <|
  (wu64 p0)

noncomputable def wide_Sub (p0 : api_Wide) (p1 : api_Wide) : Option (api_Wide × Bool) :=
  Option.bind (math_bits_Sub64 p0.Lo p1.Lo (0:Int)) fun y1_4 =>
  Option.bind (math_bits_Sub64 p0.Hi p1.Hi y1_4.2) fun y2_5 =>
  cond (y2_5.2 != (0:Int)) (
    some ((api_Wide.mk (0:Int) (0:Int)), false)) <|
  some ((api_Wide.mk y2_5.1 y1_4.1), true)

noncomputable def exact_total_l2s (p0 : (List api_Item)) (v2_14 : Int) (v2_b1x0_0 : Int) (v2_b1x0_1 : Int) (v2_b1x1_0 : Int) (v2_b1x1_1 : Int) : Option ((Int × Int × Int × Int × Int) ⊕ (Bool × api_Wide)) :=
  cond (decide (v2_14 < (p0.length : Int))) (
    Option.bind (idx p0 v2_14) fun x4_0 =>
    cond (decide (x4_0.V < (0:Int))) (
      let y6_3 := (exact_size x4_0.V);
      let y6_4 := (wide_Of y6_3);
      Option.bind (wide_Add (api_Wide.mk v2_b1x1_0 v2_b1x1_1) y6_4) fun y6_5 =>
      some (.inl ((w64 (v2_14 + (1:Int))), v2_b1x0_0, v2_b1x0_1, y6_5.1.Hi, y6_5.1.Lo))) <|
    let y7_3 := (exact_size x4_0.V);
    let y7_4 := (wide_Of y7_3);
    Option.bind (wide_Add (api_Wide.mk v2_b1x0_0 v2_b1x0_1) y7_4) fun y7_5 =>
    some (.inl ((w64 (v2_14 + (1:Int))), y7_5.1.Hi, y7_5.1.Lo, v2_b1x1_0, v2_b1x1_1))) <|
  Option.map Sum.inr (let y9_2 := (wide_Compare (api_Wide.mk v2_b1x0_0 v2_b1x0_1) (api_Wide.mk v2_b1x1_0 v2_b1x1_1));
  cond (decide (y9_2 ≥ (0:Int))) (
    Option.bind (wide_Sub (api_Wide.mk v2_b1x0_0 v2_b1x0_1) (api_Wide.mk v2_b1x1_0 v2_b1x1_1)) fun y10_2 =>
    some (false, y10_2.1)) <|
  Option.bind (wide_Sub (api_Wide.mk v2_b1x1_0 v2_b1x1_1) (api_Wide.mk v2_b1x0_0 v2_b1x0_1)) fun y12_2 =>
  some (true, y12_2.1))

noncomputable def exact_total_l2 (p0 : (List api_Item)) (v2_14 : Int) (v2_b1x0_0 : Int) (v2_b1x0_1 : Int) (v2_b1x1_0 : Int) (v2_b1x1_1 : Int) : Option (Bool × api_Wide) :=
  loop (fun (s : (Int × Int × Int × Int × Int)) => exact_total_l2s p0 s.1 s.2.1 s.2.2.1 s.2.2.2.1 s.2.2.2.2) (v2_14, v2_b1x0_0, v2_b1x0_1, v2_b1x1_0, v2_b1x1_1)

noncomputable def exact_total (p0 : (List api_Item)) : Option (Bool × api_Wide) :=
  exact_total_l2 p0 (0:Int) (0:Int) (0:Int) (0:Int) (0:Int)

noncomputable def num_Gcd_l3s (v3_0 : Int) (v3_1 : Int) : Option ((Int × Int) ⊕ Int) :=
  cond (v3_1 != (0:Int)) (
    ck (decide (v3_1 ≠ 0)) <|
    some (.inl (v3_1, (Int.tmod v3_0 v3_1)))) <|
  Option.map Sum.inr (some v3_0)

noncomputable def num_Gcd_l3 (v3_0 : Int) (v3_1 : Int) : Option Int :=
  loop (fun (s : (Int × Int)) => num_Gcd_l3s s.1 s.2) (v3_0, v3_1)

noncomputable def num_Gcd (p0 : Int) (p1 : Int) : Option Int :=
  cond ((decide (p0 < (0:Int))) || (decide (p1 < (0:Int)))) (
    some (0:Int)) <|
  num_Gcd_l3 p0 p1

noncomputable def exact_Spread_l7s (p0 : (List api_Item)) (v3_b4x0_0 : Int) (v3_b4x0_1 : Int) (v3_b4x0_2 : Int) (v3_b4x0_3 : Int) (v7_10 : Int) (v7_b4x1_0 : Int) (v7_b4x1_1 : Int) (v7_b4x1_2 : Int) (v7_b4x1_3 : Int) : Option ((Int × Int × Int × Int × Int) ⊕ (api_Ratio × Bool)) :=
  cond (decide (v7_10 < (3:Int))) (
    Option.bind (idx [v3_b4x0_0, v3_b4x0_1, v3_b4x0_2, v3_b4x0_3] v7_10) fun x13_1 =>
    Option.bind (idx [v3_b4x0_0, v3_b4x0_1, v3_b4x0_2, v3_b4x0_3] v7_10) fun x13_2 =>
    Option.bind (exact_quad_times (exact_quad.mk v7_b4x1_0 v7_b4x1_1 v7_b4x1_2 v7_b4x1_3) x13_2 (wu64 (p0.length : Int)) v7_10) fun y13_5 =>
    some (.inl ((w64 (v7_10 + (1:Int))), y13_5.e0, y13_5.e1, y13_5.e2, y13_5.e3))) <|
  Option.map Sum.inr (Option.bind (exact_total p0) fun y14_1 =>
  Option.bind (exact_quad_times (exact_quad.mk (0:Int) (0:Int) (0:Int) (0:Int)) y14_1.2.Lo y14_1.2.Lo (0:Int)) fun y15_4 =>
  Option.bind (exact_quad_times y15_4 y14_1.2.Lo y14_1.2.Hi (1:Int)) fun y16_4 =>
  Option.bind (exact_quad_times y16_4 y14_1.2.Lo y14_1.2.Hi (1:Int)) fun y17_4 =>
  Option.bind (exact_quad_times y17_4 y14_1.2.Hi y14_1.2.Hi (2:Int)) fun y18_4 =>
  Option.bind (exact_minus (exact_quad.mk v7_b4x1_0 v7_b4x1_1 v7_b4x1_2 v7_b4x1_3) y18_4) fun y19_2 =>
  Option.bind (exact_by y19_2 (wu64 (p0.length : Int))) fun y20_2 =>
  Option.bind (num_Gcd (w64 (wu64 (p0.length : Int))) (w64 y20_2.2)) fun y21_4 =>
  Option.bind (exact_by y19_2 (wu64 y21_4)) fun y22_2 =>
  cond (((ior .u64 (ior .u64 y22_2.1.e1 y22_2.1.e2) y22_2.1.e3) != (0:Int)) || (decide (y22_2.1.e0 ≥ (9223372036854775808:Int)))) (
    some ((api_Ratio.mk (0:Int) (0:Int)), false)) <|
  ck (decide ((wu64 y21_4) ≠ 0)) <|
  some ((api_Ratio.mk (w64 y22_2.1.e0) (w64 (wu64 (Int.tdiv (wu64 (p0.length : Int)) (wu64 y21_4))))), true))

noncomputable def exact_Spread_l7 (p0 : (List api_Item)) (v3_b4x0_0 : Int) (v3_b4x0_1 : Int) (v3_b4x0_2 : Int) (v3_b4x0_3 : Int) (v7_10 : Int) (v7_b4x1_0 : Int) (v7_b4x1_1 : Int) (v7_b4x1_2 : Int) (v7_b4x1_3 : Int) : Option (api_Ratio × Bool) :=
  loop (fun (s : (Int × Int × Int × Int × Int)) => exact_Spread_l7s p0 v3_b4x0_0 v3_b4x0_1 v3_b4x0_2 v3_b4x0_3 s.1 s.2.1 s.2.2.1 s.2.2.2.1 s.2.2.2.2) (v7_10, v7_b4x1_0, v7_b4x1_1, v7_b4x1_2, v7_b4x1_3)

noncomputable def exact_Spread_l3s (p0 : (List api_Item)) (v3_25 : Int) (v3_b4x0_0 : Int) (v3_b4x0_1 : Int) (v3_b4x0_2 : Int) (v3_b4x0_3 : Int) : Option ((Int × Int × Int × Int × Int) ⊕ (api_Ratio × Bool)) :=
  cond (decide (v3_25 < (p0.length : Int))) (
    Option.bind (idx p0 v3_25) fun x7_0 =>
    let y8_2 := (exact_size x7_0.V);
    let y8_5 := (exact_size x7_0.V);
    Option.bind (exact_quad_times (exact_quad.mk v3_b4x0_0 v3_b4x0_1 v3_b4x0_2 v3_b4x0_3) y8_2 y8_5 (0:Int)) fun y8_6 =>
    some (.inl ((w64 (v3_25 + (1:Int))), y8_6.e0, y8_6.e1, y8_6.e2, y8_6.e3))) <|
  Option.map Sum.inr (exact_Spread_l7 p0 v3_b4x0_0 v3_b4x0_1 v3_b4x0_2 v3_b4x0_3 (0:Int) (0:Int) (0:Int) (0:Int) (0:Int))

noncomputable def exact_Spread_l3 (p0 : (List api_Item)) (v3_25 : Int) (v3_b4x0_0 : Int) (v3_b4x0_1 : Int) (v3_b4x0_2 : Int) (v3_b4x0_3 : Int) : Option (api_Ratio × Bool) :=
  loop (fun (s : (Int × Int × Int × Int × Int)) => exact_Spread_l3s p0 s.1 s.2.1 s.2.2.1 s.2.2.2.1 s.2.2.2.2) (v3_25, v3_b4x0_0, v3_b4x0_1, v3_b4x0_2, v3_b4x0_3)

noncomputable def exact_Spread (p0 : (List api_Item)) : Option (api_Ratio × Bool) :=
  cond ((wu64 (p0.length : Int)) == (0:Int)) (
    some ((api_Ratio.mk (0:Int) (1:Int)), true)) <|
  exact_Spread_l3 p0 (0:Int) (0:Int) (0:Int) (0:Int) (0:Int)

noncomputable def num_Add (p0 : Int) (p1 : Int) : (Int × Bool) :=
  cond (((decide (p0 ≥ (0:Int))) == (decide (p1 ≥ (0:Int)))) && (!((decide ((w64 (p0 + p1)) ≥ (0:Int))) == (decide (p0 ≥ (0:Int)))))) (
    ((0:Int), false)) <|
  ((w64 (p0 + p1)), true)

noncomputable def num_size (p0 : Int) : Int :=
  cond (decide (p0 < (0:Int))) (
    (IntKind.u64.wrap (0 - (wu64 p0)))) <|
  (wu64 p0)

noncomputable def num_Mul_j1 (p0 : Int) (p1 : Int) (y1_4 : (Int × Int)) (j1_9 : Int) : (Int × Bool) :=
  cond ((y1_4.1 != (0:Int)) || (decide (y1_4.2 > j1_9))) (
    ((0:Int), false)) <|
  cond (!((decide (p0 < (0:Int))) == (decide (p1 < (0:Int))))) (
    ((w64 (IntKind.u64.wrap (0 - y1_4.2))), true)) <|
  ((w64 y1_4.2), true)

noncomputable def num_Mul (p0 : Int) (p1 : Int) : (Int × Bool) :=
  let y1_1 := (num_size p0);
  let y1_3 := (num_size p1);
  let y1_4 := (math_bits_Mul64 y1_1 y1_3);
  cond (!((decide (p0 < (0:Int))) == (decide (p1 < (0:Int))))) (
    num_Mul_j1 p0 p1 y1_4 (wu64 ((9223372036854775807:Int) + (1:Int)))) <|
  num_Mul_j1 p0 p1 y1_4 (9223372036854775807:Int)

noncomputable def exact_Squares_l2s (p0 : (List api_Item)) (v2_4 : Int) (v2_11 : Int) : Option ((Int × Int) ⊕ (Int × Bool)) :=
  cond (decide (v2_11 < (p0.length : Int))) (
    Option.bind (idx p0 v2_11) fun x4_0 =>
    let y5_4 := (num_Mul x4_0.V x4_0.V);
    cond (!y5_4.2) (
      some (.inr ((0:Int), false))) <|
    let y8_2 := (num_Add v2_4 y5_4.1);
    cond (!y8_2.2) (
      some (.inr ((0:Int), false))) <|
    some (.inl (y8_2.1, (w64 (v2_11 + (1:Int)))))) <|
  Option.map Sum.inr (some (v2_4, true))

noncomputable def exact_Squares_l2 (p0 : (List api_Item)) (v2_4 : Int) (v2_11 : Int) : Option (Int × Bool) :=
  loop (fun (s : (Int × Int)) => exact_Squares_l2s p0 s.1 s.2) (v2_4, v2_11)

noncomputable def exact_Squares (p0 : (List api_Item)) : Option (Int × Bool) :=
  exact_Squares_l2 p0 (0:Int) (0:Int)

noncomputable def exact_Sum (p0 : (List api_Item)) : Option (Int × Bool) :=
  Option.bind (exact_total p0) fun y1_1 =>
  cond (((y1_1.2.Hi != (0:Int)) || (decide (y1_1.2.Lo > (9223372036854775808:Int)))) || ((y1_1.2.Lo == (9223372036854775808:Int)) && (!y1_1.1))) (
    some ((0:Int), false)) <|
  cond y1_1.1 (
    some ((w64 (IntKind.u64.wrap (0 - y1_1.2.Lo))), true)) <|
  some ((w64 y1_1.2.Lo), true)

noncomputable def law08_awake : Option Bool :=
  Option.bind (exact_Squares [(api_Item.mk (0:Int) (2:Int)), (api_Item.mk (1:Int) (4:Int)), (api_Item.mk (1:Int) (9:Int))]) fun y2_1 =>
  let y3_7 := (exact_Count [(api_Item.mk (0:Int) (2:Int)), (api_Item.mk (1:Int) (4:Int)), (api_Item.mk (1:Int) (9:Int))]);
  some ((y2_1.2 && (y2_1.1 == (101:Int))) && (y3_7 == (3:Int)))

noncomputable def made_Mod (p0 : Int) (p1 : Int) : Option Int :=
  ck (decide (p1 ≠ 0)) <|
  cond (decide ((Int.tmod p0 p1) < (0:Int))) (
    some (w64 ((Int.tmod p0 p1) + p1))) <|
  some (Int.tmod p0 p1)

noncomputable def made_Value (p0 : Int) : Option Int :=
  Option.bind (made_Mod p0 (8:Int)) fun y2_1 =>
  cond (y2_1 == (0:Int)) (
    Option.bind (made_Mod (w64 (Int.tdiv p0 (8:Int))) (8193:Int)) fun y4_1 =>
    some (w64 (y4_1 - (4096:Int)))) <|
  cond (y2_1 == (1:Int)) (
    Option.bind (made_Mod (w64 (Int.tdiv p0 (8:Int))) (2:Int)) fun y6_1 =>
    some (w64 ((4096:Int) * (w64 ((w64 ((2:Int) * y6_1)) - (1:Int)))))) <|
  Option.bind (made_Mod (w64 (Int.tdiv p0 (8:Int))) (13:Int)) fun y7_1 =>
  some (w64 (y7_1 - (6:Int)))

noncomputable def ref01_Abs (p0 : Int) : Int :=
  cond (decide (p0 < (0:Int))) (
    (wu64 ((wu64 (IntKind.i64.wrap (0 - (w64 (p0 + (1:Int)))))) + (1:Int)))) <|
  (wu64 p0)

noncomputable def ref02_Compare (p0 : api_Wide) (p1 : api_Wide) : Int :=
  cond ((decide (p0.Hi < p1.Hi)) || ((p0.Hi == p1.Hi) && (decide (p0.Lo < p1.Lo)))) (
    (-1:Int)) <|
  cond (p0.Hi == p1.Hi && (p0.Lo == p1.Lo && true)) (
    (0:Int)) <|
  (1:Int)

noncomputable def ref02_Product (p0 : Int) (p1 : Int) : api_Wide :=
  let y1_2 := (math_bits_Mul64 p0 p1);
  (api_Wide.mk y1_2.1 y1_2.2)

noncomputable def ref02_sign (p0 : Int) : Int :=
  cond (decide (p0 < (0:Int))) (
    (-1:Int)) <|
  cond (decide (p0 > (0:Int))) (
    (1:Int)) <|
  (0:Int)

noncomputable def ref02_Cross (p0 : Int) (p1 : Int) (p2 : Int) (p3 : Int) : Int :=
  let y1_1 := (ref01_Abs p0);
  let y1_3 := (ref01_Abs p1);
  let y1_4 := (ref02_Product y1_1 y1_3);
  let y1_6 := (ref01_Abs p2);
  let y1_8 := (ref01_Abs p3);
  let y1_9 := (ref02_Product y1_6 y1_8);
  let y2_1 := (ref02_sign p0);
  let y2_3 := (ref02_sign p1);
  let y2_6 := (ref02_sign p2);
  let y2_8 := (ref02_sign p3);
  cond (decide ((w64 (y2_1 * y2_3)) < (w64 (y2_6 * y2_8)))) (
    (-1:Int)) <|
  cond (decide ((w64 (y2_1 * y2_3)) > (w64 (y2_6 * y2_8)))) (
    (1:Int)) <|
  let y7_3 := (ref02_Compare y1_4 y1_9);
  (w64 ((w64 (y2_1 * y2_3)) * y7_3))

noncomputable def ref02_bit (p0 : api_Wide) (p1 : Int) : Option Int :=
  cond (decide (p1 ≥ (64:Int))) (
    ck (decide (0 ≤ (wu64 (w64 (p1 - (64:Int)))))) <|
    some (iand .u64 (ishr .u64 p0.Hi (wu64 (w64 (p1 - (64:Int))))) (1:Int))) <|
  ck (decide (0 ≤ (wu64 p1))) <|
  some (iand .u64 (ishr .u64 p0.Lo (wu64 p1)) (1:Int))

noncomputable def ref02_double (p0 : api_Wide) (p1 : Int) : (api_Wide × Int) :=
  ((api_Wide.mk (ior .u64 (ishl .u64 p0.Hi (1:Int)) (ishr .u64 p0.Lo (63:Int))) (ior .u64 (ishl .u64 p0.Lo (1:Int)) p1)), (ishr .u64 p0.Hi (63:Int)))

noncomputable def ref02_Div_j6 (v3_9 : Int) (v3_b3x0_0 : Int) (v3_b3x0_1 : Int) (j6_11 : Int) (j6_b3x1_0 : Int) (j6_b3x1_1 : Int) : Option ((Int × Int × Int × Int × Int) ⊕ (api_Wide × api_Wide × Bool)) :=
  let y14_2 := (ref02_double (api_Wide.mk v3_b3x0_0 v3_b3x0_1) j6_11);
  some (.inl ((w64 (v3_9 - (1:Int))), y14_2.1.Hi, y14_2.1.Lo, j6_b3x1_0, j6_b3x1_1))

noncomputable def ref02_Div_l3s (p0 : api_Wide) (p1 : api_Wide) (v3_9 : Int) (v3_b3x0_0 : Int) (v3_b3x0_1 : Int) (v3_b3x1_0 : Int) (v3_b3x1_1 : Int) : Option ((Int × Int × Int × Int × Int) ⊕ (api_Wide × api_Wide × Bool)) :=
  cond (decide (v3_9 ≥ (0:Int))) (
    Option.bind (ref02_bit p0 v3_9) fun y8_3 =>
    let y8_4 := (ref02_double (api_Wide.mk v3_b3x1_0 v3_b3x1_1) y8_3);
    let y10_5 := (ref02_Compare y8_4.1 p1);
    cond ((y8_4.2 != (0:Int)) || (decide (y10_5 ≥ (0:Int)))) (
      Option.bind (math_bits_Sub64 y8_4.1.Lo p1.Lo (0:Int)) fun y11_4 =>
      Option.bind (math_bits_Sub64 y8_4.1.Hi p1.Hi y11_4.2) fun y12_5 =>
      ref02_Div_j6 v3_9 v3_b3x0_0 v3_b3x0_1 (1:Int) y12_5.1 y11_4.1) <|
    ref02_Div_j6 v3_9 v3_b3x0_0 v3_b3x0_1 (0:Int) y8_4.1.Hi y8_4.1.Lo) <|
  Option.map Sum.inr (some ((api_Wide.mk v3_b3x0_0 v3_b3x0_1), (api_Wide.mk v3_b3x1_0 v3_b3x1_1), true))

noncomputable def ref02_Div_l3 (p0 : api_Wide) (p1 : api_Wide) (v3_9 : Int) (v3_b3x0_0 : Int) (v3_b3x0_1 : Int) (v3_b3x1_0 : Int) (v3_b3x1_1 : Int) : Option (api_Wide × api_Wide × Bool) :=
  loop (fun (s : (Int × Int × Int × Int × Int)) => ref02_Div_l3s p0 p1 s.1 s.2.1 s.2.2.1 s.2.2.2.1 s.2.2.2.2) (v3_9, v3_b3x0_0, v3_b3x0_1, v3_b3x1_0, v3_b3x1_1)

noncomputable def ref02_Div (p0 : api_Wide) (p1 : api_Wide) : Option (api_Wide × api_Wide × Bool) :=
  cond (p1.Hi == (0:Int) && (p1.Lo == (0:Int) && true)) (
    some ((api_Wide.mk (0:Int) (0:Int)), (api_Wide.mk (0:Int) (0:Int)), false)) <|
  ref02_Div_l3 p0 p1 (127:Int) (0:Int) (0:Int) (0:Int) (0:Int)

noncomputable def ref02_Gcd_l2s (v2_b0x0_0 : Int) (v2_b0x0_1 : Int) (v2_b0x1_0 : Int) (v2_b0x1_1 : Int) : Option ((Int × Int × Int × Int) ⊕ api_Wide) :=
  cond (!(v2_b0x1_0 == (0:Int) && (v2_b0x1_1 == (0:Int) && true))) (
    Option.bind (ref02_Div (api_Wide.mk v2_b0x0_0 v2_b0x0_1) (api_Wide.mk v2_b0x1_0 v2_b0x1_1)) fun y2_2 =>
    some (.inl (v2_b0x1_0, v2_b0x1_1, y2_2.2.1.Hi, y2_2.2.1.Lo))) <|
  Option.map Sum.inr (some (api_Wide.mk v2_b0x0_0 v2_b0x0_1))

noncomputable def ref02_Gcd_l2 (v2_b0x0_0 : Int) (v2_b0x0_1 : Int) (v2_b0x1_0 : Int) (v2_b0x1_1 : Int) : Option api_Wide :=
  loop (fun (s : (Int × Int × Int × Int)) => ref02_Gcd_l2s s.1 s.2.1 s.2.2.1 s.2.2.2) (v2_b0x0_0, v2_b0x0_1, v2_b0x1_0, v2_b0x1_1)

noncomputable def ref02_Gcd (p0 : api_Wide) (p1 : api_Wide) : Option api_Wide :=
  ref02_Gcd_l2 p0.Hi p0.Lo p1.Hi p1.Lo

noncomputable def ref02_Of (p0 : Int) : api_Wide :=
  (api_Wide.mk (0:Int) p0)

noncomputable def ref03_Valid (p0 : api_Ratio) : Option Bool :=
  let y1_6 := (ref01_Abs p0.Num);
  let y1_7 := (ref02_Of y1_6);
  let y1_11 := (ref02_Of (wu64 p0.Den));
  Option.bind (gd (decide (p0.Den ≥ (1:Int))) (ref02_Gcd y1_7 y1_11)) fun y1_12 =>
  let y1_13 := (ref02_Of (1:Int));
  some ((decide (p0.Den ≥ (1:Int))) && (y1_12.Hi == y1_13.Hi && (y1_12.Lo == y1_13.Lo && true)))

noncomputable def ref03_Compare (p0 : api_Ratio) (p1 : api_Ratio) : Option Int :=
  Option.bind (ref03_Valid p0) fun y1_1 =>
  Option.bind (gd (!(!y1_1)) (ref03_Valid p1)) fun y1_5 =>
  cond ((!y1_1) || (!y1_5)) (
    some (0:Int)) <|
  let y3_8 := (ref02_Cross p0.Num p1.Den p1.Num p0.Den);
  some y3_8

noncomputable def law08_ExactMoves_l3s (p0 : (List api_Item)) (p2 : api_Item) (y3_1 : Int) (v3_7 : (List api_Item)) (v3_8 : (List api_Item)) (v3_26 : Int) : Option (((List api_Item) × (List api_Item) × Int) ⊕ Bool) :=
  cond (decide (v3_26 < (p0.length : Int))) (
    Option.bind (idx p0 v3_26) fun x7_0 =>
    Option.bind (made_Value x7_0.V) fun y8_2 =>
    ck (decide ((v3_7.length + [(api_Item.mk (0:Int) y8_2)].length) * 16 ≤ 140737488355328)) <|
    ck (decide ((v3_8.length + [(api_Item.mk (0:Int) (w64 (y8_2 + y3_1)))].length) * 16 ≤ 140737488355328)) <|
    some (.inl ((v3_7 ++ [(api_Item.mk (0:Int) y8_2)]), (v3_8 ++ [(api_Item.mk (0:Int) (w64 (y8_2 + y3_1)))]), (w64 (v3_26 + (1:Int)))))) <|
  Option.map Sum.inr (Option.bind (exact_Spread v3_7) fun y11_1 =>
  Option.bind (exact_Spread v3_8) fun y12_1 =>
  Option.bind (made_Value p2.V) fun y13_3 =>
  ck (decide ((v3_7.length + [(api_Item.mk (0:Int) y13_3)].length) * 16 ≤ 140737488355328)) <|
  Option.bind (exact_Spread (v3_7 ++ [(api_Item.mk (0:Int) y13_3)])) fun y13_7 =>
  Option.bind (gd (((y11_1.2 && y12_1.2) && y13_7.2) && (y11_1.1.Num == y12_1.1.Num && (y11_1.1.Den == y12_1.1.Den && true))) (ref03_Compare y11_1.1 y13_7.1)) fun y14_15 =>
  Option.bind (gd ((((y11_1.2 && y12_1.2) && y13_7.2) && (y11_1.1.Num == y12_1.1.Num && (y11_1.1.Den == y12_1.1.Den && true))) && (decide (y14_15 ≤ (0:Int)))) law08_awake) fun y14_19 =>
  some (((((y11_1.2 && y12_1.2) && y13_7.2) && (y11_1.1.Num == y12_1.1.Num && (y11_1.1.Den == y12_1.1.Den && true))) && (decide (y14_15 ≤ (0:Int)))) && y14_19))

noncomputable def law08_ExactMoves_l3 (p0 : (List api_Item)) (p2 : api_Item) (y3_1 : Int) (v3_7 : (List api_Item)) (v3_8 : (List api_Item)) (v3_26 : Int) : Option Bool :=
  loop (fun (s : ((List api_Item) × (List api_Item) × Int)) => law08_ExactMoves_l3s p0 p2 y3_1 s.1 s.2.1 s.2.2) (v3_7, v3_8, v3_26)

noncomputable def law08_ExactMoves (p0 : (List api_Item)) (p1 : Int) (p2 : api_Item) : Option Bool :=
  cond (decide ((p0.length : Int) > (100:Int))) (
    Option.bind law08_awake fun y2_0 =>
    some y2_0) <|
  Option.bind (made_Mod p1 (1000:Int)) fun y3_1 =>
  law08_ExactMoves_l3 p0 p2 y3_1 ([] : List api_Item) ([] : List api_Item) (0:Int)

noncomputable def ref06_Tick (p0 : Int) : Bool :=
  ((decide (p0 ≥ (0:Int))) && (decide (p0 ≤ (16777216:Int))))

noncomputable def ref02_Add (p0 : api_Wide) (p1 : api_Wide) : Option (api_Wide × Bool) :=
  Option.bind (math_bits_Add64 p0.Lo p1.Lo (0:Int)) fun y1_4 =>
  Option.bind (math_bits_Add64 p0.Hi p1.Hi y1_4.2) fun y2_5 =>
  cond (y2_5.2 != (0:Int)) (
    some ((api_Wide.mk (0:Int) (0:Int)), false)) <|
  some ((api_Wide.mk y2_5.1 y1_4.1), true)

noncomputable def ref02_Mul (p0 : api_Wide) (p1 : api_Wide) : Option (api_Wide × Bool) :=
  cond ((p0.Hi != (0:Int)) && (p1.Hi != (0:Int))) (
    some ((api_Wide.mk (0:Int) (0:Int)), false)) <|
  let y3_4 := (ref02_Product p0.Hi p1.Lo);
  let y3_9 := (ref02_Product p0.Lo p1.Hi);
  cond ((y3_4.Hi != (0:Int)) || (y3_9.Hi != (0:Int))) (
    some ((api_Wide.mk (0:Int) (0:Int)), false)) <|
  let y6_4 := (ref02_Product p0.Lo p1.Lo);
  Option.bind (ref02_Add y6_4 (api_Wide.mk (wu64 (y3_4.Lo + y3_9.Lo)) (0:Int))) fun y6_11 =>
  some (y6_11.1, y6_11.2)

noncomputable def ref02_Pow_l5s (p0 : Int) (p1 : Int) (v5_7 : Bool) (v5_8 : Int) (v5_b7x1_0 : Int) (v5_b7x1_1 : Int) : Option ((Bool × Int × Int × Int) ⊕ (api_Wide × Bool)) :=
  cond ((decide (v5_8 < p1)) && v5_7) (
    let y11_2 := (ref02_Of p0);
    Option.bind (ref02_Mul (api_Wide.mk v5_b7x1_0 v5_b7x1_1) y11_2) fun y11_3 =>
    some (.inl (y11_3.2, (w64 (v5_8 + (1:Int))), y11_3.1.Hi, y11_3.1.Lo))) <|
  Option.map Sum.inr (some ((api_Wide.mk v5_b7x1_0 v5_b7x1_1), v5_7))

noncomputable def ref02_Pow_l5 (p0 : Int) (p1 : Int) (v5_7 : Bool) (v5_8 : Int) (v5_b7x1_0 : Int) (v5_b7x1_1 : Int) : Option (api_Wide × Bool) :=
  loop (fun (s : (Bool × Int × Int × Int)) => ref02_Pow_l5s p0 p1 s.1 s.2.1 s.2.2.1 s.2.2.2) (v5_7, v5_8, v5_b7x1_0, v5_b7x1_1)

noncomputable def ref02_Pow (p0 : Int) (p1 : Int) : Option (api_Wide × Bool) :=
  cond (decide (p1 < (0:Int))) (
    some ((api_Wide.mk (0:Int) (0:Int)), false)) <|
  cond ((p1 == (0:Int)) || (p0 == (1:Int))) (
    let y4_0 := (ref02_Of (1:Int));
    some (y4_0, true)) <|
  cond (p0 == (0:Int)) (
    some ((api_Wide.mk (0:Int) (0:Int)), true)) <|
  let y7_0 := (ref02_Of (1:Int));
  ref02_Pow_l5 p0 p1 true (0:Int) y7_0.Hi y7_0.Lo

noncomputable def ref08_Poly_l3s (p0 : (List api_Item)) (p1 : Int) (p2 : Int) (v3_29 : Int) (v3_b3x0_0 : Int) (v3_b3x0_1 : Int) : Option ((Int × Int × Int) ⊕ (api_Wide × Bool)) :=
  cond (decide (v3_29 < (p0.length : Int))) (
    Option.bind (idx p0 v3_29) fun x6_0 =>
    let y7_6 := (ref06_Tick x6_0.T);
    cond (((decide (x6_0.V < (0:Int))) || (!y7_6)) || (decide (x6_0.T < p1))) (
      some (.inr ((api_Wide.mk (0:Int) (0:Int)), false))) <|
    Option.bind (ref02_Pow (wu64 (w64 ((w64 (x6_0.T - p1)) + (1:Int)))) p2) fun y9_7 =>
    let y10_3 := (ref02_Of (wu64 x6_0.V));
    Option.bind (ref02_Mul y10_3 y9_7.1) fun y10_5 =>
    cond (!y10_5.2) (
      some (.inr ((api_Wide.mk (0:Int) (0:Int)), false))) <|
    Option.bind (ref02_Add (api_Wide.mk v3_b3x0_0 v3_b3x0_1) y10_5.1) fun y13_2 =>
    cond (!y13_2.2) (
      some (.inr ((api_Wide.mk (0:Int) (0:Int)), false))) <|
    some (.inl ((w64 (v3_29 + (1:Int))), y13_2.1.Hi, y13_2.1.Lo))) <|
  Option.map Sum.inr (some ((api_Wide.mk v3_b3x0_0 v3_b3x0_1), true))

noncomputable def ref08_Poly_l3 (p0 : (List api_Item)) (p1 : Int) (p2 : Int) (v3_29 : Int) (v3_b3x0_0 : Int) (v3_b3x0_1 : Int) : Option (api_Wide × Bool) :=
  loop (fun (s : (Int × Int × Int)) => ref08_Poly_l3s p0 p1 p2 s.1 s.2.1 s.2.2) (v3_29, v3_b3x0_0, v3_b3x0_1)

noncomputable def ref08_Poly (p0 : (List api_Item)) (p1 : Int) (p2 : Int) : Option (api_Wide × Bool) :=
  let y1_8 := (ref06_Tick p1);
  cond (((decide (p2 < (0:Int))) || (decide (p2 > (4:Int)))) || (!y1_8)) (
    some ((api_Wide.mk (0:Int) (0:Int)), false)) <|
  ref08_Poly_l3 p0 p1 p2 (0:Int) (0:Int) (0:Int)

noncomputable def law08_ExactPolys (p0 : (List api_Item)) (p1 : Int) (p2 : Int) : Option Bool :=
  cond (decide ((p0.length : Int) > (300:Int))) (
    Option.bind law08_awake fun y2_0 =>
    some y2_0) <|
  Option.bind (exact_Poly p0 p1 p2) fun y3_3 =>
  Option.bind (ref08_Poly p0 p1 p2) fun y4_3 =>
  Option.bind (gd ((y3_3.1.Hi == y4_3.1.Hi && (y3_3.1.Lo == y4_3.1.Lo && true)) && (y3_3.2 == y4_3.2)) law08_awake) fun y5_9 =>
  some (((y3_3.1.Hi == y4_3.1.Hi && (y3_3.1.Lo == y4_3.1.Lo && true)) && (y3_3.2 == y4_3.2)) && y5_9)

noncomputable def ref08_Below_l2s (p0 : (List api_Item)) (p1 : Int) (v2_5 : Int) (v2_10 : Int) : Option ((Int × Int) ⊕ Int) :=
  cond (decide (v2_10 < (p0.length : Int))) (
    Option.bind (idx p0 v2_10) fun x4_0 =>
    cond (decide (x4_0.V < p1)) (
      some (.inl ((w64 (v2_5 + (1:Int))), (w64 (v2_10 + (1:Int)))))) <|
    some (.inl (v2_5, (w64 (v2_10 + (1:Int)))))) <|
  Option.map Sum.inr (some v2_5)

noncomputable def ref08_Below_l2 (p0 : (List api_Item)) (p1 : Int) (v2_5 : Int) (v2_10 : Int) : Option Int :=
  loop (fun (s : (Int × Int)) => ref08_Below_l2s p0 p1 s.1 s.2) (v2_5, v2_10)

noncomputable def ref08_Below (p0 : (List api_Item)) (p1 : Int) : Option Int :=
  ref08_Below_l2 p0 p1 (0:Int) (0:Int)

noncomputable def ref08_Asks (p0 : Int) (p1 : Int) : Bool :=
  (((decide (p1 ≥ (1:Int))) && (decide (p0 ≥ (0:Int)))) && (decide (p0 ≤ p1)))

noncomputable def ref08_Rank_l2s (p0 : (List api_Item)) (p1 : Int) (v2_5 : Int) (v2_10 : Int) : Option ((Int × Int) ⊕ Int) :=
  cond (decide (v2_10 < (p0.length : Int))) (
    Option.bind (idx p0 v2_10) fun x4_0 =>
    cond (decide (x4_0.V ≤ p1)) (
      some (.inl ((w64 (v2_5 + (1:Int))), (w64 (v2_10 + (1:Int)))))) <|
    some (.inl (v2_5, (w64 (v2_10 + (1:Int)))))) <|
  Option.map Sum.inr (some v2_5)

noncomputable def ref08_Rank_l2 (p0 : (List api_Item)) (p1 : Int) (v2_5 : Int) (v2_10 : Int) : Option Int :=
  loop (fun (s : (Int × Int)) => ref08_Rank_l2s p0 p1 s.1 s.2) (v2_5, v2_10)

noncomputable def ref08_Rank (p0 : (List api_Item)) (p1 : Int) : Option Int :=
  ref08_Rank_l2 p0 p1 (0:Int) (0:Int)

noncomputable def ref08_Target (p0 : Int) (p1 : Int) (p2 : Int) : Option Int :=
  let y1_4 := (ref02_Product (wu64 p0) (wu64 p2));
  let y1_7 := (ref02_Of (wu64 p1));
  Option.bind (ref02_Div y1_4 y1_7) fun y1_8 =>
  cond (!(y1_8.2.1.Hi == (0:Int) && (y1_8.2.1.Lo == (0:Int) && true))) (
    some (imax (1:Int) (w64 ((w64 y1_8.1.Lo) + (1:Int))))) <|
  some (imax (1:Int) (w64 y1_8.1.Lo))

noncomputable def ref08_Quantile_l3s (p0 : (List api_Item)) (y3_4 : Int) (v3_27 : Int) : Option (Int ⊕ (Int × Bool)) :=
  cond (decide (v3_27 < (p0.length : Int))) (
    Option.bind (idx p0 v3_27) fun x6_0 =>
    Option.bind (ref08_Below p0 x6_0.V) fun y7_3 =>
    Option.bind (gd (decide (y7_3 < y3_4)) (ref08_Rank p0 x6_0.V)) fun y7_10 =>
    cond ((decide (y7_3 < y3_4)) && (decide (y7_10 ≥ y3_4))) (
      some (.inr (x6_0.V, true))) <|
    some (.inl (w64 (v3_27 + (1:Int))))) <|
  Option.map Sum.inr (some ((0:Int), false))

noncomputable def ref08_Quantile_l3 (p0 : (List api_Item)) (y3_4 : Int) (v3_27 : Int) : Option (Int × Bool) :=
  loop (fun (s : Int) => ref08_Quantile_l3s p0 y3_4 s) v3_27

noncomputable def ref08_Quantile (p0 : (List api_Item)) (p1 : Int) (p2 : Int) : Option (Int × Bool) :=
  let y1_6 := (ref08_Asks p1 p2);
  cond (((p0.length : Int) == (0:Int)) || (!y1_6)) (
    some ((0:Int), false)) <|
  Option.bind (ref08_Target p1 p2 (p0.length : Int)) fun y3_4 =>
  ref08_Quantile_l3 p0 y3_4 (0:Int)

noncomputable def law08_ExactRanks (p0 : (List api_Item)) (p1 : Int) (p2 : Int) (p3 : Int) : Option Bool :=
  cond (decide ((p0.length : Int) > (200:Int))) (
    Option.bind law08_awake fun y2_0 =>
    some y2_0) <|
  Option.bind (exact_Quantile p0 p2 p3) fun y3_3 =>
  Option.bind (ref08_Quantile p0 p2 p3) fun y4_3 =>
  Option.bind (exact_Rank p0 p1) fun y5_2 =>
  Option.bind (ref08_Rank p0 p1) fun y5_5 =>
  Option.bind (gd (y5_2 == y5_5) (exact_Below p0 p1)) fun y5_10 =>
  Option.bind (gd (y5_2 == y5_5) (ref08_Below p0 p1)) fun y5_13 =>
  Option.bind (gd ((((y5_2 == y5_5) && (y5_10 == y5_13)) && (y3_3.1 == y4_3.1)) && (y3_3.2 == y4_3.2)) law08_awake) fun y5_27 =>
  some (((((y5_2 == y5_5) && (y5_10 == y5_13)) && (y3_3.1 == y4_3.1)) && (y3_3.2 == y4_3.2)) && y5_27)

noncomputable def ref08_Few_l3s (p0 : (List api_Item)) (v3_10 : Int) : Option (Int ⊕ Bool) :=
  cond (decide (v3_10 < (p0.length : Int))) (
    Option.bind (idx p0 v3_10) fun x5_0 =>
    cond ((decide (x5_0.V < (-1048576:Int))) || (decide (x5_0.V > (1048576:Int)))) (
      some (.inr false)) <|
    some (.inl (w64 (v3_10 + (1:Int))))) <|
  Option.map Sum.inr (some true)

noncomputable def ref08_Few_l3 (p0 : (List api_Item)) (v3_10 : Int) : Option Bool :=
  loop (fun (s : Int) => ref08_Few_l3s p0 s) v3_10

noncomputable def ref08_Few (p0 : (List api_Item)) : Option Bool :=
  cond (decide ((p0.length : Int) > (200:Int))) (
    some false) <|
  ref08_Few_l3 p0 (0:Int)

noncomputable def ref03_reduced (p0 : Bool) (p1 : api_Wide) (p2 : api_Wide) : Option (api_Ratio × Bool) :=
  Option.bind (ref02_Gcd p1 p2) fun y1_2 =>
  Option.bind (ref02_Div p1 y1_2) fun y2_2 =>
  Option.bind (ref02_Div p2 y1_2) fun y3_2 =>
  cond (((((y2_2.1.Hi != (0:Int)) || (y3_2.1.Hi != (0:Int))) || (decide (y3_2.1.Lo ≥ (9223372036854775808:Int)))) || (decide (y2_2.1.Lo > (9223372036854775808:Int)))) || ((y2_2.1.Lo == (9223372036854775808:Int)) && (!p0))) (
    some ((api_Ratio.mk (0:Int) (0:Int)), false)) <|
  cond (!p0) (
    some ((api_Ratio.mk (w64 y2_2.1.Lo) (w64 y3_2.1.Lo)), true)) <|
  cond (y2_2.1.Lo == (9223372036854775808:Int)) (
    some ((api_Ratio.mk (-9223372036854775808:Int) (w64 y3_2.1.Lo)), true)) <|
  some ((api_Ratio.mk (IntKind.i64.wrap (0 - (w64 y2_2.1.Lo))) (w64 y3_2.1.Lo)), true)

noncomputable def ref03_Make (p0 : Int) (p1 : Int) : Option (api_Ratio × Bool) :=
  cond (p1 == (0:Int)) (
    some ((api_Ratio.mk (0:Int) (0:Int)), false)) <|
  let y3_10 := (ref01_Abs p0);
  let y3_11 := (ref02_Of y3_10);
  let y3_13 := (ref01_Abs p1);
  let y3_14 := (ref02_Of y3_13);
  Option.bind (ref03_reduced ((!((decide (p0 < (0:Int))) == (decide (p1 < (0:Int))))) && (p0 != (0:Int))) y3_11 y3_14) fun y3_15 =>
  some (y3_15.1, y3_15.2)

noncomputable def ref08_Spread_l6s (p0 : (List api_Item)) (v2_11 : Int) (v6_3 : Int) (v6_5 : Int) : Option ((Int × Int) ⊕ ((Int × Int) ⊕ api_Ratio)) :=
  cond (decide (v6_5 < v2_11)) (
    Option.bind (idx p0 v2_11) fun x8_2 =>
    Option.bind (idx p0 v6_5) fun x8_7 =>
    some (.inl ((w64 (v6_3 + (w64 ((w64 (x8_2.V - x8_7.V)) * (w64 (x8_2.V - x8_7.V)))))), (w64 (v6_5 + (1:Int)))))) <|
  Option.map Sum.inr (some (.inl (v6_3, (w64 (v2_11 + (1:Int))))))

noncomputable def ref08_Spread_l6 (p0 : (List api_Item)) (v2_11 : Int) (v6_3 : Int) (v6_5 : Int) : Option ((Int × Int) ⊕ api_Ratio) :=
  loop (fun (s : (Int × Int)) => ref08_Spread_l6s p0 v2_11 s.1 s.2) (v6_3, v6_5)

noncomputable def ref08_Spread_l2s (p0 : (List api_Item)) (v2_3 : Int) (v2_11 : Int) : Option ((Int × Int) ⊕ api_Ratio) :=
  cond (decide (v2_11 < (p0.length : Int))) (
    ref08_Spread_l6 p0 v2_11 v2_3 (0:Int)) <|
  Option.map Sum.inr (Option.bind (ref03_Make v2_3 (imax (p0.length : Int) (1:Int))) fun y11_4 =>
  some y11_4.1)

noncomputable def ref08_Spread_l2 (p0 : (List api_Item)) (v2_3 : Int) (v2_11 : Int) : Option api_Ratio :=
  loop (fun (s : (Int × Int)) => ref08_Spread_l2s p0 s.1 s.2) (v2_3, v2_11)

noncomputable def ref08_Spread (p0 : (List api_Item)) : Option api_Ratio :=
  ref08_Spread_l2 p0 (0:Int) (0:Int)

noncomputable def law08_ExactSpreads (p0 : (List api_Item)) : Option Bool :=
  Option.bind (ref08_Few p0) fun y1_1 =>
  cond (!y1_1) (
    Option.bind law08_awake fun y2_0 =>
    some y2_0) <|
  Option.bind (exact_Spread p0) fun y3_1 =>
  Option.bind (gd y3_1.2 (ref08_Spread p0)) fun y4_4 =>
  Option.bind (gd (y3_1.2 && (y3_1.1.Num == y4_4.Num && (y3_1.1.Den == y4_4.Den && true))) law08_awake) fun y4_8 =>
  some ((y3_1.2 && (y3_1.1.Num == y4_4.Num && (y3_1.1.Den == y4_4.Den && true))) && y4_8)

noncomputable def ref02_Sub (p0 : api_Wide) (p1 : api_Wide) : Option (api_Wide × Bool) :=
  let y1_2 := (ref02_Compare p0 p1);
  cond (decide (y1_2 < (0:Int))) (
    some ((api_Wide.mk (0:Int) (0:Int)), false)) <|
  Option.bind (math_bits_Sub64 p0.Lo p1.Lo (0:Int)) fun y3_4 =>
  Option.bind (math_bits_Sub64 p0.Hi p1.Hi y3_4.2) fun y4_5 =>
  some ((api_Wide.mk y4_5.1 y3_4.1), true)

noncomputable def ref08_number (p0 : api_Wide) (p1 : api_Wide) : Option (Int × Bool) :=
  Option.bind (ref02_Sub p0 p1) fun y1_2 =>
  cond y1_2.2 (
    some ((w64 (iand .u64 y1_2.1.Lo (9223372036854775807:Int))), ((y1_2.1.Hi == (0:Int)) && (decide (y1_2.1.Lo < (9223372036854775808:Int)))))) <|
  Option.bind (ref02_Sub p1 p0) fun y4_2 =>
  cond ((y4_2.1.Hi == (0:Int)) && (y4_2.1.Lo == (9223372036854775808:Int))) (
    some ((-9223372036854775808:Int), true)) <|
  some ((IntKind.i64.wrap (0 - (w64 (iand .u64 y4_2.1.Lo (9223372036854775807:Int))))), ((y4_2.1.Hi == (0:Int)) && (decide (y4_2.1.Lo < (9223372036854775808:Int)))))

noncomputable def ref08_total_j5 (v2_9 : Bool) (v2_15 : Int) (j5_12 : Bool) (j5_b1x0_0 : Int) (j5_b1x0_1 : Int) (j5_b1x1_0 : Int) (j5_b1x1_1 : Int) : Option ((Bool × Int × Int × Int × Int × Int) ⊕ (api_Wide × api_Wide × Bool)) :=
  some (.inl ((v2_9 && j5_12), (w64 (v2_15 + (1:Int))), j5_b1x0_0, j5_b1x0_1, j5_b1x1_0, j5_b1x1_1))

noncomputable def ref08_total_l2s (p0 : (List api_Wide)) (p1 : (List Bool)) (v2_9 : Bool) (v2_15 : Int) (v2_b1x0_0 : Int) (v2_b1x0_1 : Int) (v2_b1x1_0 : Int) (v2_b1x1_1 : Int) : Option ((Bool × Int × Int × Int × Int × Int) ⊕ (api_Wide × api_Wide × Bool)) :=
  cond (decide (v2_15 < (p0.length : Int))) (
    Option.bind (idx p0 v2_15) fun x5_1 =>
    Option.bind (idx p1 v2_15) fun x7_2 =>
    cond x7_2 (
      Option.bind (ref02_Add (api_Wide.mk v2_b1x1_0 v2_b1x1_1) x5_1) fun y8_2 =>
      ref08_total_j5 v2_9 v2_15 y8_2.2 v2_b1x0_0 v2_b1x0_1 y8_2.1.Hi y8_2.1.Lo) <|
    Option.bind (ref02_Add (api_Wide.mk v2_b1x0_0 v2_b1x0_1) x5_1) fun y9_2 =>
    ref08_total_j5 v2_9 v2_15 y9_2.2 y9_2.1.Hi y9_2.1.Lo v2_b1x1_0 v2_b1x1_1) <|
  Option.map Sum.inr (some ((api_Wide.mk v2_b1x0_0 v2_b1x0_1), (api_Wide.mk v2_b1x1_0 v2_b1x1_1), v2_9))

noncomputable def ref08_total_l2 (p0 : (List api_Wide)) (p1 : (List Bool)) (v2_9 : Bool) (v2_15 : Int) (v2_b1x0_0 : Int) (v2_b1x0_1 : Int) (v2_b1x1_0 : Int) (v2_b1x1_1 : Int) : Option (api_Wide × api_Wide × Bool) :=
  loop (fun (s : (Bool × Int × Int × Int × Int × Int)) => ref08_total_l2s p0 p1 s.1 s.2.1 s.2.2.1 s.2.2.2.1 s.2.2.2.2.1 s.2.2.2.2.2) (v2_9, v2_15, v2_b1x0_0, v2_b1x0_1, v2_b1x1_0, v2_b1x1_1)

noncomputable def ref08_total (p0 : (List api_Wide)) (p1 : (List Bool)) : Option (api_Wide × api_Wide × Bool) :=
  ref08_total_l2 p0 p1 true (0:Int) (0:Int) (0:Int) (0:Int) (0:Int)

noncomputable def ref08_squares_l2s (p0 : (List api_Item)) (v2_4 : (List api_Wide)) (v2_12 : Int) : Option (((List api_Wide) × Int) ⊕ (api_Wide × Bool)) :=
  cond (decide (v2_12 < (p0.length : Int))) (
    Option.bind (idx p0 v2_12) fun x4_0 =>
    let y5_3 := (ref01_Abs x4_0.V);
    let y5_6 := (ref01_Abs x4_0.V);
    let y5_7 := (ref02_Product y5_3 y5_6);
    ck (decide ((v2_4.length + [y5_7].length) * 16 ≤ 140737488355328)) <|
    some (.inl ((v2_4 ++ [y5_7]), (w64 (v2_12 + (1:Int)))))) <|
  Option.map Sum.inr (ck (decide (0 ≤ (v2_4.length : Int) ∧ (v2_4.length : Int) ≤ (v2_4.length : Int) ∧ (v2_4.length : Int) * 1 ≤ 140737488355328 ∧ (v2_4.length : Int) ≤ 140737488355328)) <|
  Option.bind (ref08_total v2_4 (List.replicate ((v2_4.length : Int)).toNat false)) fun y7_4 =>
  some (y7_4.1, y7_4.2.2))

noncomputable def ref08_squares_l2 (p0 : (List api_Item)) (v2_4 : (List api_Wide)) (v2_12 : Int) : Option (api_Wide × Bool) :=
  loop (fun (s : ((List api_Wide) × Int)) => ref08_squares_l2s p0 s.1 s.2) (v2_4, v2_12)

noncomputable def ref08_squares (p0 : (List api_Item)) : Option (api_Wide × Bool) :=
  ref08_squares_l2 p0 ([] : List api_Wide) (0:Int)

noncomputable def ref08_Squares (p0 : (List api_Item)) : Option (Int × Bool) :=
  Option.bind (ref08_squares p0) fun y1_1 =>
  Option.bind (ref08_number y1_1.1 (api_Wide.mk (0:Int) (0:Int))) fun y2_2 =>
  cond ((!y1_1.2) || (!y2_2.2)) (
    some ((0:Int), false)) <|
  some (y2_2.1, true)

noncomputable def ref08_Sum_l2s (p0 : (List api_Item)) (v2_4 : (List api_Wide)) (v2_5 : (List Bool)) (v2_15 : Int) : Option (((List api_Wide) × (List Bool) × Int) ⊕ (Int × Bool)) :=
  cond (decide (v2_15 < (p0.length : Int))) (
    Option.bind (idx p0 v2_15) fun x5_0 =>
    let y6_3 := (ref01_Abs x5_0.V);
    let y6_4 := (ref02_Of y6_3);
    ck (decide ((v2_4.length + [y6_4].length) * 16 ≤ 140737488355328)) <|
    ck (decide ((v2_5.length + [(decide (x5_0.V < (0:Int)))].length) * 1 ≤ 140737488355328)) <|
    some (.inl ((v2_4 ++ [y6_4]), (v2_5 ++ [(decide (x5_0.V < (0:Int)))]), (w64 (v2_15 + (1:Int)))))) <|
  Option.map Sum.inr (Option.bind (ref08_total v2_4 v2_5) fun y8_2 =>
  Option.bind (ref08_number y8_2.1 y8_2.2.1) fun y9_2 =>
  cond (!y9_2.2) (
    some ((0:Int), false)) <|
  some (y9_2.1, true))

noncomputable def ref08_Sum_l2 (p0 : (List api_Item)) (v2_4 : (List api_Wide)) (v2_5 : (List Bool)) (v2_15 : Int) : Option (Int × Bool) :=
  loop (fun (s : ((List api_Wide) × (List Bool) × Int)) => ref08_Sum_l2s p0 s.1 s.2.1 s.2.2) (v2_4, v2_5, v2_15)

noncomputable def ref08_Sum (p0 : (List api_Item)) : Option (Int × Bool) :=
  ref08_Sum_l2 p0 ([] : List api_Wide) ([] : List Bool) (0:Int)

noncomputable def law08_ExactSums (p0 : (List api_Item)) : Option Bool :=
  cond (decide ((p0.length : Int) > (300:Int))) (
    Option.bind law08_awake fun y2_0 =>
    some y2_0) <|
  Option.bind (exact_Sum p0) fun y3_1 =>
  Option.bind (ref08_Sum p0) fun y4_1 =>
  Option.bind (exact_Squares p0) fun y5_1 =>
  Option.bind (ref08_Squares p0) fun y6_1 =>
  let y7_1 := (exact_Count p0);
  Option.bind (gd (((((y7_1 == (p0.length : Int)) && (y3_1.1 == y4_1.1)) && (y3_1.2 == y4_1.2)) && (y5_1.1 == y6_1.1)) && (y5_1.2 == y6_1.2)) law08_awake) fun y7_26 =>
  some ((((((y7_1 == (p0.length : Int)) && (y3_1.1 == y4_1.1)) && (y3_1.2 == y4_1.2)) && (y5_1.1 == y6_1.1)) && (y5_1.2 == y6_1.2)) && y7_26)

noncomputable def recent_good (p0 : Int) (p1 : Int) (p2 : Int) : Bool :=
  ((((((decide (p0 ≥ (1:Int))) && (decide (p0 ≤ (1048576:Int)))) && (decide (p1 ≥ (1:Int)))) && (decide (p1 ≤ (65536:Int)))) && (decide (p2 ≥ (0:Int)))) && (decide (p2 ≤ (16777216:Int))))

noncomputable def recent_value (p0 : Int) : Bool :=
  ((decide (p0 ≥ (-4096:Int))) && (decide (p0 ≤ (4096:Int))))

noncomputable def recent_Validate_l3s (p0 : api_Recent) (v3_32 : Int) : Option (Int ⊕ Int) :=
  cond (decide (v3_32 < (p0.Items.length : Int))) (
    Option.bind (idx p0.Items v3_32) fun x5_0 =>
    let y6_6 := (clock_Live p0.Now p0.W x5_0.T);
    let y6_11 := (recent_value x5_0.V);
    cond ((!y6_6) || (!y6_11)) (
      some (.inr (2:Int))) <|
    some (.inl (w64 (v3_32 + (1:Int))))) <|
  Option.map Sum.inr (some (0:Int))

noncomputable def recent_Validate_l3 (p0 : api_Recent) (v3_32 : Int) : Option Int :=
  loop (fun (s : Int) => recent_Validate_l3s p0 s) v3_32

noncomputable def recent_Validate (p0 : api_Recent) : Option Int :=
  let y1_6 := (recent_good p0.W p0.Cap p0.Now);
  Option.bind (gd (!((!y1_6) || (decide ((p0.Items.length : Int) > p0.Cap)))) (exact_Valid p0.Items p0.Now)) fun y1_21 =>
  cond (((!y1_6) || (decide ((p0.Items.length : Int) > p0.Cap))) || (!y1_21)) (
    some (2:Int)) <|
  recent_Validate_l3 p0 (0:Int)

noncomputable def recent_Add (p0 : api_Recent) (p1 : Int) : Option (api_Recent × Int) :=
  Option.bind (recent_Validate p0) fun y1_1 =>
  cond (y1_1 != (0:Int)) (
    some ((api_Recent.mk (0:Int) (0:Int) (0:Int) ([] : List api_Item)), y1_1)) <|
  let y4_1 := (recent_value p1);
  cond (!y4_1) (
    some ((api_Recent.mk (0:Int) (0:Int) (0:Int) ([] : List api_Item)), (4:Int))) <|
  cond ((p0.Items.length : Int) == p0.Cap) (
    some ((api_Recent.mk (0:Int) (0:Int) (0:Int) ([] : List api_Item)), (5:Int))) <|
  ck (decide (0 ≤ (p0.Items.length : Int) ∧ (p0.Items.length : Int) = (p0.Items.length : Int) ∧ (p0.Items.length : Int) ≤ (p0.Items.length : Int))) <|
  ck (decide ([(api_Item.mk p0.Now p1)] ≠ [] ∧ ((p0.Items.take ((p0.Items.length : Int)).toNat).length + [(api_Item.mk p0.Now p1)].length) * 16 ≤ 140737488355328)) <|
  some ((api_Recent.mk p0.W p0.Cap p0.Now ((p0.Items.take ((p0.Items.length : Int)).toNat) ++ [(api_Item.mk p0.Now p1)])), (0:Int))

noncomputable def recent_New (p0 : Int) (p1 : Int) (p2 : Int) : (api_Recent × Int) :=
  let y1_3 := (recent_good p0 p1 p2);
  cond (!y1_3) (
    ((api_Recent.mk (0:Int) (0:Int) (0:Int) ([] : List api_Item)), (1:Int))) <|
  ((api_Recent.mk p0 p1 p2 ([] : List api_Item)), (0:Int))

noncomputable def law09_awake : Option Bool :=
  let y1_0 := (recent_New (3:Int) (2:Int) (0:Int));
  Option.bind (recent_Add y1_0.1 (5:Int)) fun y2_1 =>
  some (((y1_0.2 == (0:Int)) && (y2_1.2 == (0:Int))) && ((y2_1.1.Items.length : Int) == (1:Int)))

noncomputable def law09_few (p0 : api_Recent) : Bool :=
  (decide ((p0.Items.length : Int) ≤ (200:Int)))

noncomputable def recent_Ask_j3 (j3_11 : Int) : Option (api_Answer × Int) :=
  let y33_1 := (ratio_Of j3_11);
  Option.bind (bounds_Exact y33_1) fun y33_2 =>
  some ((api_Answer.mk y33_2 ([] : List Int) (api_Fraction.mk (api_Wide.mk (0:Int) (0:Int)) (api_Wide.mk (0:Int) (0:Int)))), (0:Int))

noncomputable def recent_Ask (p0 : api_Recent) (p1 : api_Query) : Option (api_Answer × Int) :=
  Option.bind (recent_Validate p0) fun y1_1 =>
  cond (y1_1 != (0:Int)) (
    some ((api_Answer.mk (api_Bounds.mk (api_Ratio.mk (0:Int) (0:Int)) (api_Ratio.mk (0:Int) (0:Int)) (api_Ratio.mk (0:Int) (0:Int))) ([] : List Int) (api_Fraction.mk (api_Wide.mk (0:Int) (0:Int)) (api_Wide.mk (0:Int) (0:Int)))), y1_1)) <|
  Option.bind (exact_Least p0.Items) fun y4_2 =>
  Option.bind (exact_Greatest p0.Items) fun y5_2 =>
  cond (p1.Op == (1:Int)) (
    let y10_2 := (exact_Count p0.Items);
    recent_Ask_j3 y10_2) <|
  cond (p1.Op == (2:Int)) (
    Option.bind (exact_Sum p0.Items) fun y12_2 =>
    recent_Ask_j3 y12_2.1) <|
  cond (p1.Op == (3:Int)) (
    Option.bind (exact_Squares p0.Items) fun y14_2 =>
    recent_Ask_j3 y14_2.1) <|
  cond (p1.Op == (4:Int)) (
    recent_Ask_j3 (w64 (y5_2.1 - y4_2.1))) <|
  cond (p1.Op == (5:Int)) (
    Option.bind (exact_Spread p0.Items) fun y18_2 =>
    Option.bind (bounds_Exact y18_2.1) fun y19_1 =>
    some ((api_Answer.mk y19_1 ([] : List Int) (api_Fraction.mk (api_Wide.mk (0:Int) (0:Int)) (api_Wide.mk (0:Int) (0:Int)))), (0:Int))) <|
  cond (p1.Op == (6:Int)) (
    cond ((p0.Items.length : Int) == (0:Int)) (
      some ((api_Answer.mk (api_Bounds.mk (api_Ratio.mk (0:Int) (0:Int)) (api_Ratio.mk (0:Int) (0:Int)) (api_Ratio.mk (0:Int) (0:Int))) ([] : List Int) (api_Fraction.mk (api_Wide.mk (0:Int) (0:Int)) (api_Wide.mk (0:Int) (0:Int)))), (7:Int))) <|
    some ((api_Answer.mk (api_Bounds.mk (api_Ratio.mk (0:Int) (0:Int)) (api_Ratio.mk (0:Int) (0:Int)) (api_Ratio.mk (0:Int) (0:Int))) [y4_2.1, y5_2.1] (api_Fraction.mk (api_Wide.mk (0:Int) (0:Int)) (api_Wide.mk (0:Int) (0:Int)))), (0:Int))) <|
  cond (p1.Op == (7:Int)) (
    Option.bind (exact_Rank p0.Items p1.A) fun y25_4 =>
    recent_Ask_j3 y25_4) <|
  cond (p1.Op == (8:Int)) (
    cond (((decide (p1.B < (1:Int))) || (decide (p1.A < (0:Int)))) || (decide (p1.A > p1.B))) (
      some ((api_Answer.mk (api_Bounds.mk (api_Ratio.mk (0:Int) (0:Int)) (api_Ratio.mk (0:Int) (0:Int)) (api_Ratio.mk (0:Int) (0:Int))) ([] : List Int) (api_Fraction.mk (api_Wide.mk (0:Int) (0:Int)) (api_Wide.mk (0:Int) (0:Int)))), (1:Int))) <|
    Option.bind (exact_Quantile p0.Items p1.A p1.B) fun y29_6 =>
    cond (!y29_6.2) (
      some ((api_Answer.mk (api_Bounds.mk (api_Ratio.mk (0:Int) (0:Int)) (api_Ratio.mk (0:Int) (0:Int)) (api_Ratio.mk (0:Int) (0:Int))) ([] : List Int) (api_Fraction.mk (api_Wide.mk (0:Int) (0:Int)) (api_Wide.mk (0:Int) (0:Int)))), (7:Int))) <|
    some ((api_Answer.mk (api_Bounds.mk (api_Ratio.mk (0:Int) (0:Int)) (api_Ratio.mk (0:Int) (0:Int)) (api_Ratio.mk (0:Int) (0:Int))) [y29_6.1] (api_Fraction.mk (api_Wide.mk (0:Int) (0:Int)) (api_Wide.mk (0:Int) (0:Int)))), (0:Int))) <|
  some ((api_Answer.mk (api_Bounds.mk (api_Ratio.mk (0:Int) (0:Int)) (api_Ratio.mk (0:Int) (0:Int)) (api_Ratio.mk (0:Int) (0:Int))) ([] : List Int) (api_Fraction.mk (api_Wide.mk (0:Int) (0:Int)) (api_Wide.mk (0:Int) (0:Int)))), (12:Int))

noncomputable def ref04_Exact (p0 : api_Ratio) : Option api_Bounds :=
  Option.bind (ref03_Valid p0) fun y1_1 =>
  cond (!y1_1) (
    some (api_Bounds.mk (api_Ratio.mk (0:Int) (0:Int)) (api_Ratio.mk (0:Int) (0:Int)) (api_Ratio.mk (0:Int) (0:Int)))) <|
  some (api_Bounds.mk p0 p0 p0)

noncomputable def ref08_Extreme_l3s (p0 : (List api_Item)) (p1 : Bool) (v3_6 : Int) (v3_18 : Int) : Option ((Int × Int) ⊕ (Int × Bool)) :=
  cond (decide (v3_18 < (p0.length : Int))) (
    Option.bind (idx p0 v3_18) fun x6_0 =>
    cond ((p1 && (decide (x6_0.V > v3_6))) || ((!p1) && (decide (x6_0.V < v3_6)))) (
      some (.inl (x6_0.V, (w64 (v3_18 + (1:Int)))))) <|
    some (.inl (v3_6, (w64 (v3_18 + (1:Int)))))) <|
  Option.map Sum.inr (some (v3_6, true))

noncomputable def ref08_Extreme_l3 (p0 : (List api_Item)) (p1 : Bool) (v3_6 : Int) (v3_18 : Int) : Option (Int × Bool) :=
  loop (fun (s : (Int × Int)) => ref08_Extreme_l3s p0 p1 s.1 s.2) (v3_6, v3_18)

noncomputable def ref08_Extreme (p0 : (List api_Item)) (p1 : Bool) : Option (Int × Bool) :=
  cond ((p0.length : Int) == (0:Int)) (
    some ((0:Int), false)) <|
  Option.bind (idx p0 (0:Int)) fun x3_1 =>
  ref08_Extreme_l3 p0 p1 x3_1.V (0:Int)

noncomputable def ref03_Of (p0 : Int) : api_Ratio :=
  (api_Ratio.mk p0 (1:Int))

noncomputable def ref08_Whole (p0 : Int) : Option api_Bounds :=
  let y1_1 := (ref03_Of p0);
  Option.bind (ref04_Exact y1_1) fun y1_2 =>
  some y1_2

noncomputable def ref08_Valid_l3s (p0 : (List api_Item)) (p1 : Int) (v3_12 : Int) : Option (Int ⊕ Bool) :=
  cond (decide (v3_12 < (p0.length : Int))) (
    Option.bind (idx p0 v3_12) fun x5_1 =>
    Option.bind (gd ((!((decide (x5_1.T < (0:Int))) || (decide (x5_1.T > p1)))) && (decide (v3_12 > (0:Int)))) (idx p0 (w64 (v3_12 - (1:Int))))) fun x6_16 =>
    cond (((decide (x5_1.T < (0:Int))) || (decide (x5_1.T > p1))) || ((decide (v3_12 > (0:Int))) && (decide (x6_16.T > x5_1.T)))) (
      some (.inr false)) <|
    some (.inl (w64 (v3_12 + (1:Int))))) <|
  Option.map Sum.inr (some true)

noncomputable def ref08_Valid_l3 (p0 : (List api_Item)) (p1 : Int) (v3_12 : Int) : Option Bool :=
  loop (fun (s : Int) => ref08_Valid_l3s p0 p1 s) v3_12

noncomputable def ref08_Valid (p0 : (List api_Item)) (p1 : Int) : Option Bool :=
  let y1_1 := (ref06_Tick p1);
  cond (!y1_1) (
    some false) <|
  ref08_Valid_l3 p0 p1 (0:Int)

noncomputable def ref06_Window (p0 : Int) : Bool :=
  ((decide (p0 ≥ (1:Int))) && (decide (p0 ≤ (1048576:Int))))

noncomputable def ref09_May (p0 : Int) (p1 : Int) (p2 : Int) : Bool :=
  let y1_1 := (ref06_Window p0);
  let y1_12 := (ref06_Tick p2);
  (((y1_1 && (decide (p1 ≥ (1:Int)))) && (decide (p1 ≤ (65536:Int)))) && y1_12)

noncomputable def ref06_Live (p0 : Int) (p1 : Int) (p2 : Int) : Bool :=
  let y1_1 := (ref06_Tick p0);
  let y1_4 := (ref06_Window p1);
  let y1_8 := (ref06_Tick p2);
  ((((y1_1 && y1_4) && y1_8) && (decide (p2 > (w64 (p0 - p1))))) && (decide (p2 ≤ p0)))

noncomputable def ref09_Value (p0 : Int) : Bool :=
  ((decide (p0 ≥ (-4096:Int))) && (decide (p0 ≤ (4096:Int))))

noncomputable def ref09_Validate_l3s (p0 : api_Recent) (v3_32 : Int) : Option (Int ⊕ Int) :=
  cond (decide (v3_32 < (p0.Items.length : Int))) (
    Option.bind (idx p0.Items v3_32) fun x5_0 =>
    let y6_6 := (ref06_Live p0.Now p0.W x5_0.T);
    let y6_11 := (ref09_Value x5_0.V);
    cond ((!y6_6) || (!y6_11)) (
      some (.inr (2:Int))) <|
    some (.inl (w64 (v3_32 + (1:Int))))) <|
  Option.map Sum.inr (some (0:Int))

noncomputable def ref09_Validate_l3 (p0 : api_Recent) (v3_32 : Int) : Option Int :=
  loop (fun (s : Int) => ref09_Validate_l3s p0 s) v3_32

noncomputable def ref09_Validate (p0 : api_Recent) : Option Int :=
  let y1_6 := (ref09_May p0.W p0.Cap p0.Now);
  Option.bind (gd (!((!y1_6) || (decide ((p0.Items.length : Int) > p0.Cap)))) (ref08_Valid p0.Items p0.Now)) fun y1_21 =>
  cond (((!y1_6) || (decide ((p0.Items.length : Int) > p0.Cap))) || (!y1_21)) (
    some (2:Int)) <|
  ref09_Validate_l3 p0 (0:Int)

noncomputable def ref09_spread (p0 : Int) (p1 : Int) (p2 : Int) : Option api_Ratio :=
  Option.bind (ref03_Make (w64 ((w64 (p0 * p2)) - (w64 (p1 * p1)))) (imax p0 (1:Int))) fun y1_9 =>
  some y1_9.1

noncomputable def ref09_Ask (p0 : api_Recent) (p1 : api_Query) : Option (api_Answer × Int) :=
  Option.bind (ref09_Validate p0) fun y1_1 =>
  cond (y1_1 != (0:Int)) (
    some ((api_Answer.mk (api_Bounds.mk (api_Ratio.mk (0:Int) (0:Int)) (api_Ratio.mk (0:Int) (0:Int)) (api_Ratio.mk (0:Int) (0:Int))) ([] : List Int) (api_Fraction.mk (api_Wide.mk (0:Int) (0:Int)) (api_Wide.mk (0:Int) (0:Int)))), y1_1)) <|
  Option.bind (ref08_Extreme p0.Items false) fun y4_2 =>
  Option.bind (ref08_Extreme p0.Items true) fun y5_2 =>
  Option.bind (ref08_Sum p0.Items) fun y6_2 =>
  Option.bind (ref08_Squares p0.Items) fun y7_2 =>
  cond (p1.Op == (1:Int)) (
    Option.bind (ref08_Whole (p0.Items.length : Int)) fun y10_3 =>
    some ((api_Answer.mk y10_3 ([] : List Int) (api_Fraction.mk (api_Wide.mk (0:Int) (0:Int)) (api_Wide.mk (0:Int) (0:Int)))), (0:Int))) <|
  cond (p1.Op == (2:Int)) (
    Option.bind (ref08_Whole y6_2.1) fun y12_1 =>
    some ((api_Answer.mk y12_1 ([] : List Int) (api_Fraction.mk (api_Wide.mk (0:Int) (0:Int)) (api_Wide.mk (0:Int) (0:Int)))), (0:Int))) <|
  cond (p1.Op == (3:Int)) (
    Option.bind (ref08_Whole y7_2.1) fun y14_1 =>
    some ((api_Answer.mk y14_1 ([] : List Int) (api_Fraction.mk (api_Wide.mk (0:Int) (0:Int)) (api_Wide.mk (0:Int) (0:Int)))), (0:Int))) <|
  cond (p1.Op == (4:Int)) (
    Option.bind (ref08_Whole (w64 (y5_2.1 - y4_2.1))) fun y16_3 =>
    some ((api_Answer.mk y16_3 ([] : List Int) (api_Fraction.mk (api_Wide.mk (0:Int) (0:Int)) (api_Wide.mk (0:Int) (0:Int)))), (0:Int))) <|
  cond (p1.Op == (5:Int)) (
    Option.bind (ref09_spread (p0.Items.length : Int) y6_2.1 y7_2.1) fun y18_5 =>
    Option.bind (ref04_Exact y18_5) fun y18_6 =>
    some ((api_Answer.mk y18_6 ([] : List Int) (api_Fraction.mk (api_Wide.mk (0:Int) (0:Int)) (api_Wide.mk (0:Int) (0:Int)))), (0:Int))) <|
  cond (p1.Op == (6:Int)) (
    cond ((p0.Items.length : Int) == (0:Int)) (
      some ((api_Answer.mk (api_Bounds.mk (api_Ratio.mk (0:Int) (0:Int)) (api_Ratio.mk (0:Int) (0:Int)) (api_Ratio.mk (0:Int) (0:Int))) ([] : List Int) (api_Fraction.mk (api_Wide.mk (0:Int) (0:Int)) (api_Wide.mk (0:Int) (0:Int)))), (7:Int))) <|
    some ((api_Answer.mk (api_Bounds.mk (api_Ratio.mk (0:Int) (0:Int)) (api_Ratio.mk (0:Int) (0:Int)) (api_Ratio.mk (0:Int) (0:Int))) [y4_2.1, y5_2.1] (api_Fraction.mk (api_Wide.mk (0:Int) (0:Int)) (api_Wide.mk (0:Int) (0:Int)))), (0:Int))) <|
  cond (p1.Op == (7:Int)) (
    Option.bind (ref08_Rank p0.Items p1.A) fun y24_4 =>
    Option.bind (ref08_Whole y24_4) fun y24_5 =>
    some ((api_Answer.mk y24_5 ([] : List Int) (api_Fraction.mk (api_Wide.mk (0:Int) (0:Int)) (api_Wide.mk (0:Int) (0:Int)))), (0:Int))) <|
  cond (p1.Op == (8:Int)) (
    let y26_4 := (ref08_Asks p1.A p1.B);
    cond (!y26_4) (
      some ((api_Answer.mk (api_Bounds.mk (api_Ratio.mk (0:Int) (0:Int)) (api_Ratio.mk (0:Int) (0:Int)) (api_Ratio.mk (0:Int) (0:Int))) ([] : List Int) (api_Fraction.mk (api_Wide.mk (0:Int) (0:Int)) (api_Wide.mk (0:Int) (0:Int)))), (1:Int))) <|
    Option.bind (ref08_Quantile p0.Items p1.A p1.B) fun y28_6 =>
    cond (!y28_6.2) (
      some ((api_Answer.mk (api_Bounds.mk (api_Ratio.mk (0:Int) (0:Int)) (api_Ratio.mk (0:Int) (0:Int)) (api_Ratio.mk (0:Int) (0:Int))) ([] : List Int) (api_Fraction.mk (api_Wide.mk (0:Int) (0:Int)) (api_Wide.mk (0:Int) (0:Int)))), (7:Int))) <|
    some ((api_Answer.mk (api_Bounds.mk (api_Ratio.mk (0:Int) (0:Int)) (api_Ratio.mk (0:Int) (0:Int)) (api_Ratio.mk (0:Int) (0:Int))) [y28_6.1] (api_Fraction.mk (api_Wide.mk (0:Int) (0:Int)) (api_Wide.mk (0:Int) (0:Int)))), (0:Int))) <|
  some ((api_Answer.mk (api_Bounds.mk (api_Ratio.mk (0:Int) (0:Int)) (api_Ratio.mk (0:Int) (0:Int)) (api_Ratio.mk (0:Int) (0:Int))) ([] : List Int) (api_Fraction.mk (api_Wide.mk (0:Int) (0:Int)) (api_Wide.mk (0:Int) (0:Int)))), (12:Int))

noncomputable def ref09_SameNumbers_l3s (p0 : (List Int)) (p1 : (List Int)) (v3_13 : Int) : Option (Int ⊕ Bool) :=
  cond (decide (v3_13 < (p0.length : Int))) (
    Option.bind (idx p0 v3_13) fun x6_2 =>
    Option.bind (idx p1 v3_13) fun x6_6 =>
    cond (x6_2 != x6_6) (
      some (.inr false)) <|
    some (.inl (w64 (v3_13 + (1:Int))))) <|
  Option.map Sum.inr (some true)

noncomputable def ref09_SameNumbers_l3 (p0 : (List Int)) (p1 : (List Int)) (v3_13 : Int) : Option Bool :=
  loop (fun (s : Int) => ref09_SameNumbers_l3s p0 p1 s) v3_13

noncomputable def ref09_SameNumbers (p0 : (List Int)) (p1 : (List Int)) : Option Bool :=
  cond ((p0.length : Int) != (p1.length : Int)) (
    some false) <|
  ref09_SameNumbers_l3 p0 p1 (0:Int)

noncomputable def ref09_SameAnswer (p0 : api_Answer) (p1 : api_Answer) : Option Bool :=
  Option.bind (gd (p0.Bounds.Lo.Num == p1.Bounds.Lo.Num && (p0.Bounds.Lo.Den == p1.Bounds.Lo.Den && (p0.Bounds.Est.Num == p1.Bounds.Est.Num && (p0.Bounds.Est.Den == p1.Bounds.Est.Den && (p0.Bounds.Hi.Num == p1.Bounds.Hi.Num && (p0.Bounds.Hi.Den == p1.Bounds.Hi.Den && true)))))) (ref09_SameNumbers p0.Values p1.Values)) fun y1_10 =>
  some (((p0.Bounds.Lo.Num == p1.Bounds.Lo.Num && (p0.Bounds.Lo.Den == p1.Bounds.Lo.Den && (p0.Bounds.Est.Num == p1.Bounds.Est.Num && (p0.Bounds.Est.Den == p1.Bounds.Est.Den && (p0.Bounds.Hi.Num == p1.Bounds.Hi.Num && (p0.Bounds.Hi.Den == p1.Bounds.Hi.Den && true)))))) && y1_10) && (p0.Fraction.Num.Hi == p1.Fraction.Num.Hi && (p0.Fraction.Num.Lo == p1.Fraction.Num.Lo && (p0.Fraction.Den.Hi == p1.Fraction.Den.Hi && (p0.Fraction.Den.Lo == p1.Fraction.Den.Lo && true)))))

noncomputable def law09_RecentAsks (p0 : api_Recent) (p1 : api_Query) : Option Bool :=
  let y1_1 := (law09_few p0);
  cond (!y1_1) (
    Option.bind law09_awake fun y2_0 =>
    some y2_0) <|
  Option.bind (recent_Ask p0 p1) fun y3_2 =>
  Option.bind (ref09_Ask p0 p1) fun y4_2 =>
  Option.bind (ref09_SameAnswer y3_2.1 y4_2.1) fun y5_2 =>
  Option.bind (gd (y5_2 && (y3_2.2 == y4_2.2)) law09_awake) fun y5_9 =>
  some ((y5_2 && (y3_2.2 == y4_2.2)) && y5_9)

noncomputable def ref05_SameItems_l3s (p0 : (List api_Item)) (p1 : (List api_Item)) (v3_13 : Int) : Option (Int ⊕ Bool) :=
  cond (decide (v3_13 < (p0.length : Int))) (
    Option.bind (idx p0 v3_13) fun x6_2 =>
    Option.bind (idx p1 v3_13) fun x6_6 =>
    cond (!(x6_2.T == x6_6.T && (x6_2.V == x6_6.V && true))) (
      some (.inr false)) <|
    some (.inl (w64 (v3_13 + (1:Int))))) <|
  Option.map Sum.inr (some true)

noncomputable def ref05_SameItems_l3 (p0 : (List api_Item)) (p1 : (List api_Item)) (v3_13 : Int) : Option Bool :=
  loop (fun (s : Int) => ref05_SameItems_l3s p0 p1 s) v3_13

noncomputable def ref05_SameItems (p0 : (List api_Item)) (p1 : (List api_Item)) : Option Bool :=
  cond ((p0.length : Int) != (p1.length : Int)) (
    some false) <|
  ref05_SameItems_l3 p0 p1 (0:Int)

noncomputable def law09_RecentRuns_j8 (v3_32 : Int) (j8_9 : (List api_Item)) (j8_b2x6_0 : Int) (j8_b2x6_1 : Int) (j8_b2x6_2 : Int) (j8_b2x6_3 : (List api_Item)) : Option (((List api_Item) × Int × Int × Int × Int × (List api_Item)) ⊕ Bool) :=
  Option.bind (ref05_SameItems j8_b2x6_3 j8_9) fun y18_3 =>
  cond (!y18_3) (
    some (.inr false)) <|
  some (.inl (j8_9, (w64 (v3_32 + (1:Int))), j8_b2x6_0, j8_b2x6_1, j8_b2x6_2, j8_b2x6_3))

noncomputable def made_Live_l2s (p0 : (List api_Item)) (p1 : Int) (p2 : Int) (v2_7 : (List api_Item)) (v2_12 : Int) : Option (((List api_Item) × Int) ⊕ (List api_Item)) :=
  cond (decide (v2_12 < (p0.length : Int))) (
    Option.bind (idx p0 v2_12) fun x4_0 =>
    cond ((decide (x4_0.T > (w64 (p1 - p2)))) && (decide (x4_0.T ≤ p1))) (
      ck (decide ((v2_7.length + [x4_0].length) * 16 ≤ 140737488355328)) <|
      some (.inl ((v2_7 ++ [x4_0]), (w64 (v2_12 + (1:Int)))))) <|
    some (.inl (v2_7, (w64 (v2_12 + (1:Int)))))) <|
  Option.map Sum.inr (some v2_7)

noncomputable def made_Live_l2 (p0 : (List api_Item)) (p1 : Int) (p2 : Int) (v2_7 : (List api_Item)) (v2_12 : Int) : Option (List api_Item) :=
  loop (fun (s : ((List api_Item) × Int)) => made_Live_l2s p0 p1 p2 s.1 s.2) (v2_7, v2_12)

noncomputable def made_Live (p0 : (List api_Item)) (p1 : Int) (p2 : Int) : Option (List api_Item) :=
  made_Live_l2 p0 p1 p2 ([] : List api_Item) (0:Int)

noncomputable def recent_Advance (p0 : api_Recent) (p1 : Int) : Option (api_Recent × Int) :=
  Option.bind (recent_Validate p0) fun y1_1 =>
  cond (y1_1 != (0:Int)) (
    some ((api_Recent.mk (0:Int) (0:Int) (0:Int) ([] : List api_Item)), y1_1)) <|
  let y4_3 := (clock_Advance p0.Now p1);
  cond (y4_3.2 != (0:Int)) (
    some ((api_Recent.mk (0:Int) (0:Int) (0:Int) ([] : List api_Item)), y4_3.2)) <|
  Option.bind (exact_Live p0.Items p1 p0.W) fun y8_5 =>
  some ((api_Recent.mk p0.W p0.Cap p1 y8_5), (0:Int))

noncomputable def law09_RecentRuns_l3s (y1_1 : Int) (y1_4 : Int) (y6_2 : (List api_Item)) (v3_9 : (List api_Item)) (v3_32 : Int) (v3_b2x6_0 : Int) (v3_b2x6_1 : Int) (v3_b2x6_2 : Int) (v3_b2x6_3 : (List api_Item)) : Option (((List api_Item) × Int × Int × Int × Int × (List api_Item)) ⊕ Bool) :=
  cond (decide (v3_32 < (y6_2.length : Int))) (
    Option.bind (idx y6_2 v3_32) fun x8_0 =>
    Option.bind (recent_Advance (api_Recent.mk v3_b2x6_0 v3_b2x6_1 v3_b2x6_2 v3_b2x6_3) x8_0.T) fun y9_3 =>
    cond (y9_3.2 != (0:Int)) (
      some (.inr false)) <|
    Option.bind (made_Live v3_9 x8_0.T (w64 ((1:Int) + y1_1))) fun y12_4 =>
    Option.bind (recent_Add y9_3.1 x8_0.V) fun y13_3 =>
    cond ((!((y13_3.2 == (5:Int)) == ((y12_4.length : Int) == (w64 ((1:Int) + y1_4))))) || ((y13_3.2 != (0:Int)) && (y13_3.2 != (5:Int)))) (
      some (.inr false)) <|
    cond (y13_3.2 == (0:Int)) (
      ck (decide ((([] : List api_Item).length + y12_4.length) * 16 ≤ 140737488355328)) <|
      ck (decide (((([] : List api_Item) ++ y12_4).length + [x8_0].length) * 16 ≤ 140737488355328)) <|
      law09_RecentRuns_j8 v3_32 ((([] : List api_Item) ++ y12_4) ++ [x8_0]) y13_3.1.W y13_3.1.Cap y13_3.1.Now y13_3.1.Items) <|
    law09_RecentRuns_j8 v3_32 y12_4 y9_3.1.W y9_3.1.Cap y9_3.1.Now y9_3.1.Items) <|
  Option.map Sum.inr (Option.bind law09_awake fun y21_0 =>
  some y21_0)

noncomputable def law09_RecentRuns_l3 (y1_1 : Int) (y1_4 : Int) (y6_2 : (List api_Item)) (v3_9 : (List api_Item)) (v3_32 : Int) (v3_b2x6_0 : Int) (v3_b2x6_1 : Int) (v3_b2x6_2 : Int) (v3_b2x6_3 : (List api_Item)) : Option Bool :=
  loop (fun (s : ((List api_Item) × Int × Int × Int × Int × (List api_Item))) => law09_RecentRuns_l3s y1_1 y1_4 y6_2 s.1 s.2.1 s.2.2.1 s.2.2.2.1 s.2.2.2.2.1 s.2.2.2.2.2) (v3_9, v3_32, v3_b2x6_0, v3_b2x6_1, v3_b2x6_2, v3_b2x6_3)

noncomputable def made_Int (p0 : Int) (p1 : Int) : Option Int :=
  Option.bind (made_Mod p0 p1) fun y1_2 =>
  some y1_2

noncomputable def made_Gap_j3 (p0 : Int) (j3_17 : Bool) : Option Int :=
  cond j3_17 (
    Option.bind (made_Mod (w64 (Int.tdiv p0 (8:Int))) (3:Int)) fun y7_1 =>
    some (w64 ((1:Int) + y7_1))) <|
  some (0:Int)

noncomputable def made_Gap (p0 : Int) (p1 : Int) : Option Int :=
  Option.bind (made_Mod p0 (8:Int)) fun y2_1 =>
  cond (y2_1 == (0:Int)) (
    Option.bind (made_Mod (w64 (Int.tdiv p0 (8:Int))) (w64 ((w64 ((2:Int) * p1)) + (2:Int)))) fun y4_4 =>
    some y4_4) <|
  cond (y2_1 == (1:Int)) (
    made_Gap_j3 p0 (y2_1 == (1:Int))) <|
  made_Gap_j3 p0 (y2_1 == (2:Int))

noncomputable def made_Items_l2s (p0 : (List api_Item)) (p1 : Int) (p2 : Int) (v2_7 : (List api_Item)) (v2_8 : Int) (v2_9 : Int) : Option (((List api_Item) × Int × Int) ⊕ (List api_Item)) :=
  cond ((decide (v2_9 < (p0.length : Int))) && (decide (v2_9 < p2))) (
    Option.bind (idx p0 v2_9) fun x6_3 =>
    Option.bind (made_Gap x6_3.T p1) fun y6_7 =>
    Option.bind (idx p0 v2_9) fun x7_4 =>
    Option.bind (made_Value x7_4.V) fun y7_7 =>
    ck (decide ((v2_7.length + [(api_Item.mk (w64 (v2_8 + y6_7)) y7_7)].length) * 16 ≤ 140737488355328)) <|
    some (.inl ((v2_7 ++ [(api_Item.mk (w64 (v2_8 + y6_7)) y7_7)]), (w64 (v2_8 + y6_7)), (w64 (v2_9 + (1:Int)))))) <|
  Option.map Sum.inr (some v2_7)

noncomputable def made_Items_l2 (p0 : (List api_Item)) (p1 : Int) (p2 : Int) (v2_7 : (List api_Item)) (v2_8 : Int) (v2_9 : Int) : Option (List api_Item) :=
  loop (fun (s : ((List api_Item) × Int × Int)) => made_Items_l2s p0 p1 p2 s.1 s.2.1 s.2.2) (v2_7, v2_8, v2_9)

noncomputable def made_Items (p0 : (List api_Item)) (p1 : Int) (p2 : Int) : Option (List api_Item) :=
  made_Items_l2 p0 p1 p2 ([] : List api_Item) (0:Int) (0:Int)

noncomputable def law09_RecentRuns (p0 : (List api_Item)) (p1 : Int) (p2 : Int) : Option Bool :=
  Option.bind (made_Mod p1 (20:Int)) fun y1_1 =>
  Option.bind (made_Int p2 (30:Int)) fun y1_4 =>
  let y2_2 := (recent_New (w64 ((1:Int) + y1_1)) (w64 ((1:Int) + y1_4)) (0:Int));
  cond (y2_2.2 != (0:Int)) (
    some false) <|
  Option.bind (made_Items p0 (w64 ((1:Int) + y1_1)) (60:Int)) fun y6_2 =>
  law09_RecentRuns_l3 y1_1 y1_4 y6_2 ([] : List api_Item) (0:Int) y2_2.1.W y2_2.1.Cap y2_2.1.Now y2_2.1.Items

noncomputable def ref09_Add (p0 : api_Recent) (p1 : Int) : Option (api_Recent × Int) :=
  Option.bind (ref09_Validate p0) fun y1_1 =>
  cond (y1_1 != (0:Int)) (
    some ((api_Recent.mk (0:Int) (0:Int) (0:Int) ([] : List api_Item)), y1_1)) <|
  let y4_1 := (ref09_Value p1);
  cond (!y4_1) (
    some ((api_Recent.mk (0:Int) (0:Int) (0:Int) ([] : List api_Item)), (4:Int))) <|
  cond ((p0.Items.length : Int) == p0.Cap) (
    some ((api_Recent.mk (0:Int) (0:Int) (0:Int) ([] : List api_Item)), (5:Int))) <|
  ck (decide ((([] : List api_Item).length + p0.Items.length) * 16 ≤ 140737488355328)) <|
  ck (decide (((([] : List api_Item) ++ p0.Items).length + [(api_Item.mk p0.Now p1)].length) * 16 ≤ 140737488355328)) <|
  some ((api_Recent.mk p0.W p0.Cap p0.Now ((([] : List api_Item) ++ p0.Items) ++ [(api_Item.mk p0.Now p1)])), (0:Int))

noncomputable def ref06_Back (p0 : Int) (p1 : Int) : Int :=
  cond ((decide (p1 < p0)) || (decide (p1 > (16777216:Int)))) (
    (3:Int)) <|
  (0:Int)

noncomputable def ref08_Live_l3s (p0 : (List api_Item)) (p1 : Int) (p2 : Int) (v3_7 : (List api_Item)) (v3_21 : Int) : Option (((List api_Item) × Int) ⊕ (List api_Item)) :=
  cond (decide (v3_21 < (p0.length : Int))) (
    Option.bind (idx p0 v3_21) fun x6_0 =>
    let y7_4 := (ref06_Live p1 p2 x6_0.T);
    cond y7_4 (
      ck (decide ((v3_7.length + [x6_0].length) * 16 ≤ 140737488355328)) <|
      some (.inl ((v3_7 ++ [x6_0]), (w64 (v3_21 + (1:Int)))))) <|
    some (.inl (v3_7, (w64 (v3_21 + (1:Int)))))) <|
  Option.map Sum.inr (some v3_7)

noncomputable def ref08_Live_l3 (p0 : (List api_Item)) (p1 : Int) (p2 : Int) (v3_7 : (List api_Item)) (v3_21 : Int) : Option (List api_Item) :=
  loop (fun (s : ((List api_Item) × Int)) => ref08_Live_l3s p0 p1 p2 s.1 s.2) (v3_7, v3_21)

noncomputable def ref08_Live (p0 : (List api_Item)) (p1 : Int) (p2 : Int) : Option (List api_Item) :=
  Option.bind (ref08_Valid p0 p1) fun y1_2 =>
  let y1_6 := (ref06_Window p2);
  cond ((!y1_2) || (!y1_6)) (
    some ([] : List api_Item)) <|
  ref08_Live_l3 p0 p1 p2 ([] : List api_Item) (0:Int)

noncomputable def ref09_Advance (p0 : api_Recent) (p1 : Int) : Option (api_Recent × Int) :=
  Option.bind (ref09_Validate p0) fun y1_1 =>
  cond (y1_1 != (0:Int)) (
    some ((api_Recent.mk (0:Int) (0:Int) (0:Int) ([] : List api_Item)), y1_1)) <|
  let y4_3 := (ref06_Back p0.Now p1);
  cond (y4_3 != (0:Int)) (
    some ((api_Recent.mk (0:Int) (0:Int) (0:Int) ([] : List api_Item)), y4_3)) <|
  Option.bind (ref08_Live p0.Items p1 p0.W) fun y7_10 =>
  some ((api_Recent.mk p0.W p0.Cap p1 y7_10), (0:Int))

noncomputable def ref09_Same (p0 : api_Recent) (p1 : api_Recent) : Option Bool :=
  Option.bind (gd (((p0.W == p1.W) && (p0.Cap == p1.Cap)) && (p0.Now == p1.Now)) (ref05_SameItems p0.Items p1.Items)) fun y1_24 =>
  some ((((p0.W == p1.W) && (p0.Cap == p1.Cap)) && (p0.Now == p1.Now)) && y1_24)

noncomputable def law09_RecentStates (p0 : api_Recent) (p1 : Int) (p2 : Int) : Option Bool :=
  let y1_1 := (law09_few p0);
  cond (!y1_1) (
    Option.bind law09_awake fun y2_0 =>
    some y2_0) <|
  Option.bind (recent_Advance p0 p1) fun y3_2 =>
  Option.bind (ref09_Advance p0 p1) fun y4_2 =>
  Option.bind (recent_Add p0 p2) fun y5_2 =>
  Option.bind (ref09_Add p0 p2) fun y6_2 =>
  Option.bind (recent_Validate p0) fun y7_1 =>
  Option.bind (ref09_Validate p0) fun y7_3 =>
  Option.bind (gd (y7_1 == y7_3) (ref09_Same y3_2.1 y4_2.1)) fun y7_8 =>
  Option.bind (gd (((y7_1 == y7_3) && y7_8) && (y3_2.2 == y4_2.2)) (ref09_Same y5_2.1 y6_2.1)) fun y7_18 =>
  Option.bind (gd (((((y7_1 == y7_3) && y7_8) && (y3_2.2 == y4_2.2)) && y7_18) && (y5_2.2 == y6_2.2)) law09_awake) fun y7_26 =>
  some ((((((y7_1 == y7_3) && y7_8) && (y3_2.2 == y4_2.2)) && y7_18) && (y5_2.2 == y6_2.2)) && y7_26)

noncomputable def law09_RecentTruth_j1 (p2 : Int) (y1_1 : Int) (y1_4 : Int) (y2_3 : Int) (j1_b3x2_2 : Int) (j1_b3x2_3 : (List api_Item)) : Option Bool :=
  Option.bind (exact_Sum j1_b3x2_3) fun y8_2 =>
  Option.bind (exact_Spread j1_b3x2_3) fun y9_2 =>
  Option.bind (recent_Ask (api_Recent.mk (w64 ((1:Int) + y1_1)) (60:Int) j1_b3x2_2 j1_b3x2_3) (api_Query.mk (2:Int) (0:Int) (0:Int))) fun y10_2 =>
  Option.bind (recent_Ask (api_Recent.mk (w64 ((1:Int) + y1_1)) (60:Int) j1_b3x2_2 j1_b3x2_3) (api_Query.mk (5:Int) (0:Int) (0:Int))) fun y11_2 =>
  Option.bind (recent_Ask (api_Recent.mk (w64 ((1:Int) + y1_1)) (60:Int) j1_b3x2_2 j1_b3x2_3) (api_Query.mk (7:Int) p2 (0:Int))) fun y12_3 =>
  Option.bind (gd (!(((((!y8_2.2) || (!y9_2.2)) || (y10_2.2 != (0:Int))) || (y11_2.2 != (0:Int))) || (y12_3.2 != (0:Int)))) (ref08_Whole y8_2.1)) fun y13_22 =>
  Option.bind (gd (!(((((((!y8_2.2) || (!y9_2.2)) || (y10_2.2 != (0:Int))) || (y11_2.2 != (0:Int))) || (y12_3.2 != (0:Int))) || (!(y10_2.1.Bounds.Lo.Num == y13_22.Lo.Num && (y10_2.1.Bounds.Lo.Den == y13_22.Lo.Den && (y10_2.1.Bounds.Est.Num == y13_22.Est.Num && (y10_2.1.Bounds.Est.Den == y13_22.Est.Den && (y10_2.1.Bounds.Hi.Num == y13_22.Hi.Num && (y10_2.1.Bounds.Hi.Den == y13_22.Hi.Den && true)))))))) || (!(y11_2.1.Bounds.Lo.Num == y9_2.1.Num && (y11_2.1.Bounds.Lo.Den == y9_2.1.Den && true))))) (ref08_Rank j1_b3x2_3 p2)) fun y13_38 =>
  Option.bind (gd (!(((((((!y8_2.2) || (!y9_2.2)) || (y10_2.2 != (0:Int))) || (y11_2.2 != (0:Int))) || (y12_3.2 != (0:Int))) || (!(y10_2.1.Bounds.Lo.Num == y13_22.Lo.Num && (y10_2.1.Bounds.Lo.Den == y13_22.Lo.Den && (y10_2.1.Bounds.Est.Num == y13_22.Est.Num && (y10_2.1.Bounds.Est.Den == y13_22.Est.Den && (y10_2.1.Bounds.Hi.Num == y13_22.Hi.Num && (y10_2.1.Bounds.Hi.Den == y13_22.Hi.Den && true)))))))) || (!(y11_2.1.Bounds.Lo.Num == y9_2.1.Num && (y11_2.1.Bounds.Lo.Den == y9_2.1.Den && true))))) (ref08_Whole y13_38)) fun y13_39 =>
  cond ((((((((!y8_2.2) || (!y9_2.2)) || (y10_2.2 != (0:Int))) || (y11_2.2 != (0:Int))) || (y12_3.2 != (0:Int))) || (!(y10_2.1.Bounds.Lo.Num == y13_22.Lo.Num && (y10_2.1.Bounds.Lo.Den == y13_22.Lo.Den && (y10_2.1.Bounds.Est.Num == y13_22.Est.Num && (y10_2.1.Bounds.Est.Den == y13_22.Est.Den && (y10_2.1.Bounds.Hi.Num == y13_22.Hi.Num && (y10_2.1.Bounds.Hi.Den == y13_22.Hi.Den && true)))))))) || (!(y11_2.1.Bounds.Lo.Num == y9_2.1.Num && (y11_2.1.Bounds.Lo.Den == y9_2.1.Den && true)))) || (!(y12_3.1.Bounds.Lo.Num == y13_39.Lo.Num && (y12_3.1.Bounds.Lo.Den == y13_39.Lo.Den && (y12_3.1.Bounds.Est.Num == y13_39.Est.Num && (y12_3.1.Bounds.Est.Den == y13_39.Est.Den && (y12_3.1.Bounds.Hi.Num == y13_39.Hi.Num && (y12_3.1.Bounds.Hi.Den == y13_39.Hi.Den && true)))))))) (
    some false) <|
  Option.bind (recent_Ask (api_Recent.mk (w64 ((1:Int) + y1_1)) (60:Int) j1_b3x2_2 j1_b3x2_3) (api_Query.mk (8:Int) y2_3 (w64 ((1:Int) + y1_4)))) fun y15_4 =>
  Option.bind (exact_Quantile j1_b3x2_3 y2_3 (w64 ((1:Int) + y1_4))) fun y16_4 =>
  Option.bind (gd (y16_4.2 && (y15_4.2 == (0:Int))) (ref09_SameNumbers y15_4.1.Values [y16_4.1])) fun y17_10 =>
  Option.bind (gd (((y16_4.2 && (y15_4.2 == (0:Int))) && y17_10) || ((!y16_4.2) && (y15_4.2 == (7:Int)))) law09_awake) fun y17_21 =>
  some ((((y16_4.2 && (y15_4.2 == (0:Int))) && y17_10) || ((!y16_4.2) && (y15_4.2 == (7:Int)))) && y17_21)

noncomputable def law09_RecentTruth (p0 : (List api_Item)) (p1 : Int) (p2 : Int) (p3 : Int) (p4 : Int) : Option Bool :=
  Option.bind (made_Mod p1 (20:Int)) fun y1_1 =>
  Option.bind (made_Mod p4 (20:Int)) fun y1_4 =>
  Option.bind (made_Mod p3 (w64 ((w64 ((1:Int) + y1_4)) + (1:Int)))) fun y2_3 =>
  Option.bind (made_Items p0 (w64 ((1:Int) + y1_1)) (60:Int)) fun y4_2 =>
  cond (decide ((y4_2.length : Int) > (0:Int))) (
    Option.bind (idx y4_2 (w64 ((y4_2.length : Int) - (1:Int)))) fun x6_4 =>
    Option.bind (made_Live y4_2 x6_4.T (w64 ((1:Int) + y1_1))) fun y7_4 =>
    law09_RecentTruth_j1 p2 y1_1 y1_4 y2_3 x6_4.T y7_4) <|
  law09_RecentTruth_j1 p2 y1_1 y1_4 y2_3 (0:Int) ([] : List api_Item)

noncomputable def rank_Of_l3s (p0 : (List Int)) (v3_21 : Int) (v3_b5x3_1 : (List api_Entry)) : Option ((Int × (List api_Entry)) ⊕ (api_Ranks × Int)) :=
  cond (decide (v3_21 < ((sortZ p0).length : Int))) (
    Option.bind (idx (sortZ p0) v3_21) fun x8_1 =>
    Option.bind (idx (sortZ p0) v3_21) fun x8_2 =>
    ck (decide ((v3_b5x3_1.length + [(api_Entry.mk x8_2 (w64 (v3_21 + (1:Int))) (w64 (v3_21 + (1:Int))))].length) * 24 ≤ 140737488355328)) <|
    some (.inl ((w64 (v3_21 + (1:Int))), (v3_b5x3_1 ++ [(api_Entry.mk x8_2 (w64 (v3_21 + (1:Int))) (w64 (v3_21 + (1:Int))))])))) <|
  Option.map Sum.inr (some ((api_Ranks.mk ((sortZ p0).length : Int) v3_b5x3_1), (0:Int)))

noncomputable def rank_Of_l3 (p0 : (List Int)) (v3_21 : Int) (v3_b5x3_1 : (List api_Entry)) : Option (api_Ranks × Int) :=
  loop (fun (s : (Int × (List api_Entry))) => rank_Of_l3s p0 s.1 s.2) (v3_21, v3_b5x3_1)

noncomputable def rank_Of (p0 : (List Int)) : Option (api_Ranks × Int) :=
  cond (decide ((p0.length : Int) > (65536:Int))) (
    some ((api_Ranks.mk (0:Int) ([] : List api_Entry)), (5:Int))) <|
  ck (decide (p0.length * 8 ≤ 140737488355328)) <|
  ck (decide (p0.length < 4611686018427387904)) <|
  rank_Of_l3 p0 (0:Int) ([] : List api_Entry)

noncomputable def law21_awake : Option Bool :=
  Option.bind (rank_Of [(3:Int), (1:Int)]) fun y1_1 =>
  Option.bind (gd (((y1_1.2 == (0:Int)) && (y1_1.1.N == (2:Int))) && ((y1_1.1.Entries.length : Int) == (2:Int))) (idx y1_1.1.Entries (0:Int))) fun x2_16 =>
  some ((((y1_1.2 == (0:Int)) && (y1_1.1.N == (2:Int))) && ((y1_1.1.Entries.length : Int) == (2:Int))) && (x2_16.V == (1:Int)))

noncomputable def law21_few (p0 : api_Ranks) : Bool :=
  (decide ((p0.Entries.length : Int) ≤ (150:Int)))

noncomputable def rank_Validate_l3s (p0 : api_Ranks) (v3_29 : Int) : Option (Int ⊕ Int) :=
  cond (decide (v3_29 < (p0.Entries.length : Int))) (
    Option.bind (idx p0.Entries v3_29) fun x6_1 =>
    cond (((decide (x6_1.Min < (1:Int))) || (decide (x6_1.Min > x6_1.Max))) || (decide (x6_1.Max > p0.N))) (
      some (.inr (2:Int))) <|
    cond (decide (v3_29 > (0:Int))) (
      Option.bind (idx p0.Entries (w64 (v3_29 - (1:Int)))) fun x10_4 =>
      cond (((decide (x10_4.V > x6_1.V)) || (decide (x10_4.Min ≥ x6_1.Min))) || (decide (x10_4.Max ≥ x6_1.Max))) (
        some (.inr (2:Int))) <|
      some (.inl (w64 (v3_29 + (1:Int))))) <|
    some (.inl (w64 (v3_29 + (1:Int))))) <|
  Option.map Sum.inr (Option.bind (gd (decide ((p0.Entries.length : Int) > (0:Int))) (idx p0.Entries (0:Int))) fun x14_5 =>
  Option.bind (gd ((decide ((p0.Entries.length : Int) > (0:Int))) && (!(x14_5.Max != (1:Int)))) (idx p0.Entries (w64 ((p0.Entries.length : Int) - (1:Int))))) fun x14_14 =>
  cond ((decide ((p0.Entries.length : Int) > (0:Int))) && ((x14_5.Max != (1:Int)) || (x14_14.Min != p0.N))) (
    some (2:Int)) <|
  some (0:Int))

noncomputable def rank_Validate_l3 (p0 : api_Ranks) (v3_29 : Int) : Option Int :=
  loop (fun (s : Int) => rank_Validate_l3s p0 s) v3_29

noncomputable def rank_Validate (p0 : api_Ranks) : Option Int :=
  cond (((decide (p0.N < (0:Int))) || (decide (p0.N > (1099511627776:Int)))) || (!(((p0.Entries.length : Int) == (0:Int)) == (p0.N == (0:Int))))) (
    some (2:Int)) <|
  rank_Validate_l3 p0 (0:Int)

noncomputable def rank_far (p0 : api_Entry) (p1 : Int) : Int :=
  (imax (w64 (p1 - p0.Min)) (w64 (p0.Max - p1)))

noncomputable def rank_place_l2s (p0 : (List api_Entry)) (p1 : Int) (v2_2 : Int) : Option (Int ⊕ Int) :=
  Option.bind (gd (decide ((w64 (v2_2 + (1:Int))) < (p0.length : Int))) (idx p0 (w64 (v2_2 + (1:Int))))) fun x1_9 =>
  let y1_12 := (rank_far x1_9 p1);
  Option.bind (gd (decide ((w64 (v2_2 + (1:Int))) < (p0.length : Int))) (idx p0 v2_2)) fun x1_15 =>
  let y1_18 := (rank_far x1_15 p1);
  cond ((decide ((w64 (v2_2 + (1:Int))) < (p0.length : Int))) && (decide (y1_12 < y1_18))) (
    some (.inl (w64 (v2_2 + (1:Int))))) <|
  Option.map Sum.inr (some v2_2)

noncomputable def rank_place_l2 (p0 : (List api_Entry)) (p1 : Int) (v2_2 : Int) : Option Int :=
  loop (fun (s : Int) => rank_place_l2s p0 p1 s) v2_2

noncomputable def rank_place (p0 : (List api_Entry)) (p1 : Int) (p2 : Int) : Option Int :=
  rank_place_l2 p0 p1 p2

noncomputable def rank_At (p0 : api_Ranks) (p1 : Int) : Option (Int × Int) :=
  Option.bind (rank_Validate p0) fun y1_1 =>
  cond (y1_1 != (0:Int)) (
    some ((0:Int), y1_1)) <|
  cond ((decide (p1 < (1:Int))) || (decide (p1 > p0.N))) (
    some ((0:Int), (1:Int))) <|
  Option.bind (rank_place p0.Entries p1 (0:Int)) fun y6_5 =>
  Option.bind (idx p0.Entries y6_5) fun x6_6 =>
  some (x6_6.V, (0:Int))

noncomputable def rank_Quantile_j4 (p0 : api_Ranks) (j4_b8x14_1 : Int) : Option (Int × Int) :=
  Option.bind (rank_place p0.Entries (imax (1:Int) (w64 j4_b8x14_1)) (0:Int)) fun y11_8 =>
  Option.bind (idx p0.Entries y11_8) fun x11_9 =>
  some (x11_9.V, (0:Int))

noncomputable def rank_Quantile (p0 : api_Ranks) (p1 : Int) (p2 : Int) : Option (Int × Int) :=
  Option.bind (rank_Validate p0) fun y1_1 =>
  cond (y1_1 != (0:Int)) (
    some ((0:Int), y1_1)) <|
  cond (((decide (p2 < (1:Int))) || (decide (p1 < (0:Int)))) || (decide (p1 > p2))) (
    some ((0:Int), (1:Int))) <|
  cond (p0.N == (0:Int)) (
    some ((0:Int), (7:Int))) <|
  let y8_5 := (wide_Product (wu64 p1) (wu64 p0.N));
  let y8_8 := (wide_Of (wu64 p2));
  Option.bind (wide_Div y8_5 y8_8) fun y8_9 =>
  cond (!(y8_9.2.1.Hi == (0:Int) && (y8_9.2.1.Lo == (0:Int) && true))) (
    rank_Quantile_j4 p0 (wu64 (y8_9.1.Lo + (1:Int)))) <|
  rank_Quantile_j4 p0 y8_9.1.Lo

noncomputable def rank_Rank_j2 (j2_7 : Int) (j2_8 : Int) : Option (api_Bounds × Int) :=
  let y12_2 := (bounds_Whole j2_7 j2_8);
  some (y12_2.1, (0:Int))

noncomputable def rank_Rank_l3s (p0 : api_Ranks) (p1 : Int) (v3_7 : Int) (v3_24 : Int) : Option ((Int × Int) ⊕ (api_Bounds × Int)) :=
  cond (decide (v3_24 < (p0.Entries.length : Int))) (
    Option.bind (idx p0.Entries v3_24) fun x7_0 =>
    cond (decide (x7_0.V > p1)) (
      Option.map Sum.inr (rank_Rank_j2 v3_7 (w64 (x7_0.Max - (1:Int))))) <|
    some (.inl (x7_0.Min, (w64 (v3_24 + (1:Int)))))) <|
  Option.map Sum.inr (rank_Rank_j2 v3_7 p0.N)

noncomputable def rank_Rank_l3 (p0 : api_Ranks) (p1 : Int) (v3_7 : Int) (v3_24 : Int) : Option (api_Bounds × Int) :=
  loop (fun (s : (Int × Int)) => rank_Rank_l3s p0 p1 s.1 s.2) (v3_7, v3_24)

noncomputable def rank_Rank (p0 : api_Ranks) (p1 : Int) : Option (api_Bounds × Int) :=
  Option.bind (rank_Validate p0) fun y1_1 =>
  cond (y1_1 != (0:Int)) (
    some ((api_Bounds.mk (api_Ratio.mk (0:Int) (0:Int)) (api_Ratio.mk (0:Int) (0:Int)) (api_Ratio.mk (0:Int) (0:Int))), y1_1)) <|
  rank_Rank_l3 p0 p1 (0:Int) (0:Int)

noncomputable def ref20_For_l2s (p0 : (List api_Entry)) (p1 : Int) (v2_5 : Int) (v2_10 : Int) : Option ((Int × Int) ⊕ Int) :=
  cond (decide (v2_10 < (p0.length : Int))) (
    Option.bind (idx p0 v2_10) fun x4_1 =>
    Option.bind (idx p0 v2_5) fun x5_12 =>
    Option.bind (idx p0 v2_5) fun x5_18 =>
    cond (decide ((imax (w64 (p1 - x4_1.Min)) (w64 (x4_1.Max - p1))) < (imax (w64 (p1 - x5_12.Min)) (w64 (x5_18.Max - p1))))) (
      some (.inl (v2_10, (w64 (v2_10 + (1:Int)))))) <|
    some (.inl (v2_5, (w64 (v2_10 + (1:Int)))))) <|
  Option.map Sum.inr (some v2_5)

noncomputable def ref20_For_l2 (p0 : (List api_Entry)) (p1 : Int) (v2_5 : Int) (v2_10 : Int) : Option Int :=
  loop (fun (s : (Int × Int)) => ref20_For_l2s p0 p1 s.1 s.2) (v2_5, v2_10)

noncomputable def ref20_For (p0 : (List api_Entry)) (p1 : Int) : Option Int :=
  ref20_For_l2 p0 p1 (0:Int) (0:Int)

noncomputable def ref21_Validate_l3s (p0 : api_Ranks) (v3_27 : Int) : Option (Int ⊕ Int) :=
  cond (decide (v3_27 < (p0.Entries.length : Int))) (
    Option.bind (idx p0.Entries v3_27) fun x5_1 =>
    cond (((((decide (x5_1.Min < (1:Int))) || (decide (x5_1.Min > x5_1.Max))) || (decide (x5_1.Max > p0.N))) || ((v3_27 == (0:Int)) && (x5_1.Max != (1:Int)))) || ((v3_27 == (w64 ((p0.Entries.length : Int) - (1:Int)))) && (x5_1.Min != p0.N))) (
      some (.inr (2:Int))) <|
    cond (decide (v3_27 > (0:Int))) (
      Option.bind (idx p0.Entries (w64 (v3_27 - (1:Int)))) fun x9_4 =>
      cond (((decide (x9_4.V > x5_1.V)) || (decide (x9_4.Min ≥ x5_1.Min))) || (decide (x9_4.Max ≥ x5_1.Max))) (
        some (.inr (2:Int))) <|
      some (.inl (w64 (v3_27 + (1:Int))))) <|
    some (.inl (w64 (v3_27 + (1:Int))))) <|
  Option.map Sum.inr (some (0:Int))

noncomputable def ref21_Validate_l3 (p0 : api_Ranks) (v3_27 : Int) : Option Int :=
  loop (fun (s : Int) => ref21_Validate_l3s p0 s) v3_27

noncomputable def ref21_Validate (p0 : api_Ranks) : Option Int :=
  cond (((decide (p0.N < (0:Int))) || (decide (p0.N > (1099511627776:Int)))) || (!(((p0.Entries.length : Int) == (0:Int)) == (p0.N == (0:Int))))) (
    some (2:Int)) <|
  ref21_Validate_l3 p0 (0:Int)

noncomputable def ref21_At (p0 : api_Ranks) (p1 : Int) : Option (Int × Int) :=
  Option.bind (ref21_Validate p0) fun y1_1 =>
  cond (y1_1 != (0:Int)) (
    some ((0:Int), y1_1)) <|
  cond ((decide (p1 < (1:Int))) || (decide (p1 > p0.N))) (
    some ((0:Int), (1:Int))) <|
  Option.bind (ref20_For p0.Entries p1) fun y6_5 =>
  Option.bind (idx p0.Entries y6_5) fun x6_6 =>
  some (x6_6.V, (0:Int))

noncomputable def ref21_Quantile (p0 : api_Ranks) (p1 : Int) (p2 : Int) : Option (Int × Int) :=
  Option.bind (ref21_Validate p0) fun y1_1 =>
  cond (y1_1 != (0:Int)) (
    some ((0:Int), y1_1)) <|
  let y4_2 := (ref08_Asks p1 p2);
  cond (!y4_2) (
    some ((0:Int), (1:Int))) <|
  cond (p0.N == (0:Int)) (
    some ((0:Int), (7:Int))) <|
  Option.bind (ref08_Target p1 p2 p0.N) fun y8_5 =>
  Option.bind (ref21_At p0 y8_5) fun y8_6 =>
  some (y8_6.1, y8_6.2)

noncomputable def ref01_FloorDiv (p0 : Int) (p1 : Int) : Option (Int × Bool) :=
  cond ((p1 == (0:Int)) || ((p0 == (-9223372036854775808:Int)) && (p1 == (-1:Int)))) (
    some ((0:Int), false)) <|
  ck (decide (p1 ≠ 0)) <|
  ck (decide (p1 ≠ 0)) <|
  cond (((Int.tmod p0 p1) != (0:Int)) && (!((decide (p0 < (0:Int))) == (decide (p1 < (0:Int)))))) (
    some ((w64 ((w64 (Int.tdiv p0 p1)) - (1:Int))), true)) <|
  some ((w64 (Int.tdiv p0 p1)), true)

noncomputable def ref04_Middle (p0 : Int) (p1 : Int) : Option Int :=
  Option.bind (ref01_FloorDiv p0 (2:Int)) fun y1_1 =>
  Option.bind (ref01_FloorDiv p1 (2:Int)) fun y2_1 =>
  some (w64 ((w64 (y1_1.1 + y2_1.1)) + (w64 (Int.tdiv (w64 ((w64 ((w64 (p0 - (w64 ((2:Int) * y1_1.1)))) + p1)) - (w64 ((2:Int) * y2_1.1)))) (2:Int)))))

noncomputable def ref04_Whole (p0 : Int) (p1 : Int) : Option (api_Bounds × Bool) :=
  cond (decide (p0 > p1)) (
    some ((api_Bounds.mk (api_Ratio.mk (0:Int) (0:Int)) (api_Ratio.mk (0:Int) (0:Int)) (api_Ratio.mk (0:Int) (0:Int))), false)) <|
  let y3_1 := (ref03_Of p0);
  Option.bind (ref04_Middle p0 p1) fun y3_4 =>
  let y3_5 := (ref03_Of y3_4);
  let y3_7 := (ref03_Of p1);
  some ((api_Bounds.mk y3_1 y3_5 y3_7), true)

noncomputable def ref20_Between_l7s (p0 : (List api_Entry)) (p2 : Int) (v2_8 : Int) (v7_9 : Int) (v7_12 : Int) : Option ((Int × Int) ⊕ (Int × Int)) :=
  cond (decide (v7_12 ≥ (0:Int))) (
    Option.bind (idx p0 v7_12) fun x11_2 =>
    cond (decide (x11_2.V > p2)) (
      Option.bind (idx p0 v7_12) fun x12_2 =>
      some (.inl ((w64 (x12_2.Max - (1:Int))), (w64 (v7_12 - (1:Int)))))) <|
    some (.inl (v7_9, (w64 (v7_12 - (1:Int)))))) <|
  Option.map Sum.inr (some (v2_8, v7_9))

noncomputable def ref20_Between_l7 (p0 : (List api_Entry)) (p2 : Int) (v2_8 : Int) (v7_9 : Int) (v7_12 : Int) : Option (Int × Int) :=
  loop (fun (s : (Int × Int)) => ref20_Between_l7s p0 p2 v2_8 s.1 s.2) (v7_9, v7_12)

noncomputable def ref20_Between_l2s (p0 : (List api_Entry)) (p1 : Int) (p2 : Int) (v2_8 : Int) (v2_16 : Int) : Option ((Int × Int) ⊕ (Int × Int)) :=
  cond (decide (v2_16 < (p0.length : Int))) (
    Option.bind (idx p0 v2_16) fun x4_0 =>
    cond (decide (x4_0.V ≤ p2)) (
      some (.inl (x4_0.Min, (w64 (v2_16 + (1:Int)))))) <|
    some (.inl (v2_8, (w64 (v2_16 + (1:Int)))))) <|
  Option.map Sum.inr (ref20_Between_l7 p0 p2 v2_8 p1 (w64 ((p0.length : Int) - (1:Int))))

noncomputable def ref20_Between_l2 (p0 : (List api_Entry)) (p1 : Int) (p2 : Int) (v2_8 : Int) (v2_16 : Int) : Option (Int × Int) :=
  loop (fun (s : (Int × Int)) => ref20_Between_l2s p0 p1 p2 s.1 s.2) (v2_8, v2_16)

noncomputable def ref20_Between (p0 : (List api_Entry)) (p1 : Int) (p2 : Int) : Option (Int × Int) :=
  ref20_Between_l2 p0 p1 p2 (0:Int) (0:Int)

noncomputable def ref21_Rank (p0 : api_Ranks) (p1 : Int) : Option (api_Bounds × Int) :=
  Option.bind (ref21_Validate p0) fun y1_1 =>
  cond (y1_1 != (0:Int)) (
    some ((api_Bounds.mk (api_Ratio.mk (0:Int) (0:Int)) (api_Ratio.mk (0:Int) (0:Int)) (api_Ratio.mk (0:Int) (0:Int))), y1_1)) <|
  Option.bind (ref20_Between p0.Entries p0.N p1) fun y4_5 =>
  Option.bind (ref04_Whole y4_5.1 y4_5.2) fun y5_2 =>
  some (y5_2.1, (0:Int))

noncomputable def law21_RankAsks (p0 : api_Ranks) (p1 : Int) (p2 : Int) (p3 : Int) (p4 : Int) : Option Bool :=
  let y1_1 := (law21_few p0);
  cond (!y1_1) (
    Option.bind law21_awake fun y2_0 =>
    some y2_0) <|
  Option.bind (rank_At p0 p1) fun y3_2 =>
  Option.bind (ref21_At p0 p1) fun y4_2 =>
  Option.bind (rank_Quantile p0 p2 p3) fun y5_3 =>
  Option.bind (ref21_Quantile p0 p2 p3) fun y6_3 =>
  Option.bind (rank_Rank p0 p4) fun y7_2 =>
  Option.bind (ref21_Rank p0 p4) fun y8_2 =>
  Option.bind (gd ((((((y3_2.1 == y4_2.1) && (y3_2.2 == y4_2.2)) && (y5_3.1 == y6_3.1)) && (y5_3.2 == y6_3.2)) && (y7_2.1.Lo.Num == y8_2.1.Lo.Num && (y7_2.1.Lo.Den == y8_2.1.Lo.Den && (y7_2.1.Est.Num == y8_2.1.Est.Num && (y7_2.1.Est.Den == y8_2.1.Est.Den && (y7_2.1.Hi.Num == y8_2.1.Hi.Num && (y7_2.1.Hi.Den == y8_2.1.Hi.Den && true))))))) && (y7_2.2 == y8_2.2)) law21_awake) fun y9_29 =>
  some (((((((y3_2.1 == y4_2.1) && (y3_2.2 == y4_2.2)) && (y5_3.1 == y6_3.1)) && (y5_3.2 == y6_3.2)) && (y7_2.1.Lo.Num == y8_2.1.Lo.Num && (y7_2.1.Lo.Den == y8_2.1.Lo.Den && (y7_2.1.Est.Num == y8_2.1.Est.Num && (y7_2.1.Est.Den == y8_2.1.Est.Den && (y7_2.1.Hi.Num == y8_2.1.Hi.Num && (y7_2.1.Hi.Den == y8_2.1.Hi.Den && true))))))) && (y7_2.2 == y8_2.2)) && y9_29)

noncomputable def rank_Gap_l3s (p0 : api_Ranks) (v3_3 : Int) (v3_4 : Int) : Option ((Int × Int) ⊕ Int) :=
  cond (decide (v3_4 < (p0.Entries.length : Int))) (
    Option.bind (idx p0.Entries v3_4) fun x7_4 =>
    Option.bind (idx p0.Entries (w64 (v3_4 - (1:Int)))) fun x7_11 =>
    some (.inl ((imax v3_3 (w64 (x7_4.Max - x7_11.Min))), (w64 (v3_4 + (1:Int)))))) <|
  Option.map Sum.inr (some v3_3)

noncomputable def rank_Gap_l3 (p0 : api_Ranks) (v3_3 : Int) (v3_4 : Int) : Option Int :=
  loop (fun (s : (Int × Int)) => rank_Gap_l3s p0 s.1 s.2) (v3_3, v3_4)

noncomputable def rank_Gap (p0 : api_Ranks) : Option Int :=
  Option.bind (rank_Validate p0) fun y1_1 =>
  cond ((y1_1 != (0:Int)) || ((p0.Entries.length : Int) == (0:Int))) (
    some (0:Int)) <|
  rank_Gap_l3 p0 (1:Int) (1:Int)

noncomputable def law21_RankNear_l4s (p0 : api_Ranks) (y3_3 : Int) (y4_2 : (Int × Int)) (y7_1 : Int) (v4_43 : Int) : Option (Int ⊕ Bool) :=
  cond (decide (v4_43 < (p0.Entries.length : Int))) (
    Option.bind (idx p0.Entries v4_43) fun x10_0 =>
    cond (((x10_0.V == y4_2.1) && (decide (x10_0.Min ≥ (w64 ((w64 ((1:Int) + y3_3)) - (w64 (Int.tdiv y7_1 (2:Int)))))))) && (decide (x10_0.Max ≤ (w64 ((w64 ((1:Int) + y3_3)) + (w64 (Int.tdiv y7_1 (2:Int)))))))) (
      Option.bind law21_awake fun y12_0 =>
      some (.inr y12_0)) <|
    some (.inl (w64 (v4_43 + (1:Int))))) <|
  Option.map Sum.inr (some false)

noncomputable def law21_RankNear_l4 (p0 : api_Ranks) (y3_3 : Int) (y4_2 : (Int × Int)) (y7_1 : Int) (v4_43 : Int) : Option Bool :=
  loop (fun (s : Int) => law21_RankNear_l4s p0 y3_3 y4_2 y7_1 s) v4_43

noncomputable def law21_RankNear (p0 : api_Ranks) (p1 : Int) : Option Bool :=
  let y1_1 := (law21_few p0);
  Option.bind (gd (!(!y1_1)) (ref21_Validate p0)) fun y1_5 =>
  cond (((!y1_1) || (y1_5 != (0:Int))) || (p0.N == (0:Int))) (
    Option.bind law21_awake fun y2_0 =>
    some y2_0) <|
  Option.bind (made_Mod p1 p0.N) fun y3_3 =>
  Option.bind (rank_At p0 (w64 ((1:Int) + y3_3))) fun y4_2 =>
  cond (y4_2.2 != (0:Int)) (
    some false) <|
  Option.bind (rank_Gap p0) fun y7_1 =>
  law21_RankNear_l4 p0 y3_3 y4_2 y7_1 (0:Int)

noncomputable def ref21_Of_l7s (x6_0 : Int) (v3_18 : Int) (v7_7 : Int) (v7_b3x3_1 : (List api_Entry)) : Option ((Int × (List api_Entry)) ⊕ ((Int × (List api_Entry)) ⊕ (api_Ranks × Int))) :=
  Option.bind (gd (decide (v7_7 > (0:Int))) (idx v7_b3x3_1 (w64 (v7_7 - (1:Int))))) fun x9_7 =>
  Option.bind (gd (decide (v7_7 > (0:Int))) (idx v7_b3x3_1 (w64 (v7_7 - (1:Int))))) fun x9_9 =>
  cond ((decide (v7_7 > (0:Int))) && (decide (x9_9.V > x6_0))) (
    Option.bind (idx v7_b3x3_1 (w64 (v7_7 - (1:Int)))) fun x10_11 =>
    Option.bind (idx v7_b3x3_1 (w64 (v7_7 - (1:Int)))) fun x10_12 =>
    Option.bind (idx v7_b3x3_1 v7_7) fun x10_16 =>
    Option.bind (idx v7_b3x3_1 v7_7) fun x10_17 =>
    Option.bind (idx v7_b3x3_1 v7_7) fun x10_18 =>
    Option.bind (idx v7_b3x3_1 v7_7) fun x10_19 =>
    Option.bind (idx (v7_b3x3_1.set (v7_7).toNat x10_12) (w64 (v7_7 - (1:Int)))) fun x10_20 =>
    Option.bind (idx (v7_b3x3_1.set (v7_7).toNat x10_12) (w64 (v7_7 - (1:Int)))) fun x10_21 =>
    some (.inl ((w64 (v7_7 - (1:Int))), ((v7_b3x3_1.set (v7_7).toNat x10_12).set ((w64 (v7_7 - (1:Int)))).toNat x10_17)))) <|
  Option.map Sum.inr (some (.inl ((w64 (v3_18 + (1:Int))), v7_b3x3_1)))

noncomputable def ref21_Of_l7 (x6_0 : Int) (v3_18 : Int) (v7_7 : Int) (v7_b3x3_1 : (List api_Entry)) : Option ((Int × (List api_Entry)) ⊕ (api_Ranks × Int)) :=
  loop (fun (s : (Int × (List api_Entry))) => ref21_Of_l7s x6_0 v3_18 s.1 s.2) (v7_7, v7_b3x3_1)

noncomputable def ref21_Of_l11s (p0 : (List Int)) (v3_b3x3_1 : (List api_Entry)) (v11_71 : Int) (v11_b3x3_1 : (List api_Entry)) : Option ((Int × (List api_Entry)) ⊕ (api_Ranks × Int)) :=
  cond (decide (v11_71 < (v3_b3x3_1.length : Int))) (
    Option.bind (idx v11_b3x3_1 v11_71) fun x16_10 =>
    Option.bind (idx v11_b3x3_1 v11_71) fun x16_12 =>
    Option.bind (idx (v11_b3x3_1.set (v11_71).toNat (api_Entry.mk x16_12.V (w64 (v11_71 + (1:Int))) x16_12.Max)) v11_71) fun x16_13 =>
    Option.bind (idx (v11_b3x3_1.set (v11_71).toNat (api_Entry.mk x16_12.V (w64 (v11_71 + (1:Int))) x16_12.Max)) v11_71) fun x16_15 =>
    some (.inl ((w64 (v11_71 + (1:Int))), ((v11_b3x3_1.set (v11_71).toNat (api_Entry.mk x16_12.V (w64 (v11_71 + (1:Int))) x16_12.Max)).set (v11_71).toNat (api_Entry.mk x16_15.V x16_15.Min (w64 (v11_71 + (1:Int)))))))) <|
  Option.map Sum.inr (some ((api_Ranks.mk (p0.length : Int) v11_b3x3_1), (0:Int)))

noncomputable def ref21_Of_l11 (p0 : (List Int)) (v3_b3x3_1 : (List api_Entry)) (v11_71 : Int) (v11_b3x3_1 : (List api_Entry)) : Option (api_Ranks × Int) :=
  loop (fun (s : (Int × (List api_Entry))) => ref21_Of_l11s p0 v3_b3x3_1 s.1 s.2) (v11_71, v11_b3x3_1)

noncomputable def ref21_Of_l3s (p0 : (List Int)) (v3_18 : Int) (v3_b3x3_1 : (List api_Entry)) : Option ((Int × (List api_Entry)) ⊕ (api_Ranks × Int)) :=
  cond (decide (v3_18 < (p0.length : Int))) (
    Option.bind (idx p0 v3_18) fun x6_0 =>
    ck (decide ((v3_b3x3_1.length + [(api_Entry.mk x6_0 (0:Int) (0:Int))].length) * 24 ≤ 140737488355328)) <|
    ref21_Of_l7 x6_0 v3_18 (v3_b3x3_1.length : Int) (v3_b3x3_1 ++ [(api_Entry.mk x6_0 (0:Int) (0:Int))])) <|
  Option.map Sum.inr (ref21_Of_l11 p0 v3_b3x3_1 (0:Int) v3_b3x3_1)

noncomputable def ref21_Of_l3 (p0 : (List Int)) (v3_18 : Int) (v3_b3x3_1 : (List api_Entry)) : Option (api_Ranks × Int) :=
  loop (fun (s : (Int × (List api_Entry))) => ref21_Of_l3s p0 s.1 s.2) (v3_18, v3_b3x3_1)

noncomputable def ref21_Of (p0 : (List Int)) : Option (api_Ranks × Int) :=
  cond (decide ((p0.length : Int) > (65536:Int))) (
    some ((api_Ranks.mk (0:Int) ([] : List api_Entry)), (5:Int))) <|
  ref21_Of_l3 p0 (0:Int) ([] : List api_Entry)

noncomputable def ref21_Same_l3s (p0 : api_Ranks) (p1 : api_Ranks) (v3_23 : Int) : Option (Int ⊕ Bool) :=
  cond (decide (v3_23 < (p0.Entries.length : Int))) (
    Option.bind (idx p0.Entries v3_23) fun x6_3 =>
    Option.bind (idx p1.Entries v3_23) fun x6_8 =>
    cond (!(x6_3.V == x6_8.V && (x6_3.Min == x6_8.Min && (x6_3.Max == x6_8.Max && true)))) (
      some (.inr false)) <|
    some (.inl (w64 (v3_23 + (1:Int))))) <|
  Option.map Sum.inr (some true)

noncomputable def ref21_Same_l3 (p0 : api_Ranks) (p1 : api_Ranks) (v3_23 : Int) : Option Bool :=
  loop (fun (s : Int) => ref21_Same_l3s p0 p1 s) v3_23

noncomputable def ref21_Same (p0 : api_Ranks) (p1 : api_Ranks) : Option Bool :=
  cond ((p0.N != p1.N) || ((p0.Entries.length : Int) != (p1.Entries.length : Int))) (
    some false) <|
  ref21_Same_l3 p0 p1 (0:Int)

noncomputable def law21_RankOf (p0 : (List Int)) : Option Bool :=
  cond (decide ((p0.length : Int) > (200:Int))) (
    Option.bind law21_awake fun y2_0 =>
    some y2_0) <|
  Option.bind (rank_Of p0) fun y3_1 =>
  Option.bind (ref21_Of p0) fun y4_1 =>
  Option.bind (ref21_Same y3_1.1 y4_1.1) fun y5_2 =>
  Option.bind (gd (y5_2 && (y3_1.2 == y4_1.2)) (rank_Validate y3_1.1)) fun y5_10 =>
  Option.bind (gd ((y5_2 && (y3_1.2 == y4_1.2)) && (y5_10 == (0:Int))) (rank_Gap y3_1.1)) fun y5_15 =>
  Option.bind (gd (((y5_2 && (y3_1.2 == y4_1.2)) && (y5_10 == (0:Int))) && (y5_15 == (imin (1:Int) (p0.length : Int)))) law21_awake) fun y5_22 =>
  some ((((y5_2 && (y3_1.2 == y4_1.2)) && (y5_10 == (0:Int))) && (y5_15 == (imin (1:Int) (p0.length : Int)))) && y5_22)

noncomputable def ref21_Gap_l3s (p0 : api_Ranks) (v3_3 : Int) (v3_4 : Int) : Option ((Int × Int) ⊕ Int) :=
  cond (decide (v3_4 < (p0.Entries.length : Int))) (
    Option.bind (idx p0.Entries v3_4) fun x7_4 =>
    Option.bind (idx p0.Entries (w64 (v3_4 - (1:Int)))) fun x7_11 =>
    some (.inl ((imax v3_3 (w64 (x7_4.Max - x7_11.Min))), (w64 (v3_4 + (1:Int)))))) <|
  Option.map Sum.inr (some v3_3)

noncomputable def ref21_Gap_l3 (p0 : api_Ranks) (v3_3 : Int) (v3_4 : Int) : Option Int :=
  loop (fun (s : (Int × Int)) => ref21_Gap_l3s p0 s.1 s.2) (v3_3, v3_4)

noncomputable def ref21_Gap (p0 : api_Ranks) : Option Int :=
  Option.bind (ref21_Validate p0) fun y1_1 =>
  cond ((y1_1 != (0:Int)) || (p0.N == (0:Int))) (
    some (0:Int)) <|
  ref21_Gap_l3 p0 (1:Int) (1:Int)

noncomputable def law21_RankValidate (p0 : api_Ranks) : Option Bool :=
  let y1_1 := (law21_few p0);
  cond (!y1_1) (
    Option.bind law21_awake fun y2_0 =>
    some y2_0) <|
  Option.bind (rank_Validate p0) fun y3_1 =>
  Option.bind (ref21_Validate p0) fun y3_3 =>
  Option.bind (gd (y3_1 == y3_3) (rank_Gap p0)) fun y3_7 =>
  Option.bind (gd (y3_1 == y3_3) (ref21_Gap p0)) fun y3_9 =>
  Option.bind (gd ((y3_1 == y3_3) && (y3_7 == y3_9)) law21_awake) fun y3_13 =>
  some (((y3_1 == y3_3) && (y3_7 == y3_9)) && y3_13)

noncomputable def ref02_Left_l4s (p1 : Int) (v4_6 : Int) (v4_b0x0_0 : Int) (v4_b0x0_1 : Int) : Option ((Int × Int × Int) ⊕ (api_Wide × Bool)) :=
  cond (decide (v4_6 < p1)) (
    let y9_1 := (ref02_double (api_Wide.mk v4_b0x0_0 v4_b0x0_1) (0:Int));
    cond (y9_1.2 != (0:Int)) (
      some (.inr ((api_Wide.mk (0:Int) (0:Int)), false))) <|
    some (.inl ((w64 (v4_6 + (1:Int))), y9_1.1.Hi, y9_1.1.Lo))) <|
  Option.map Sum.inr (some ((api_Wide.mk v4_b0x0_0 v4_b0x0_1), true))

noncomputable def ref02_Left_l4 (p1 : Int) (v4_6 : Int) (v4_b0x0_0 : Int) (v4_b0x0_1 : Int) : Option (api_Wide × Bool) :=
  loop (fun (s : (Int × Int × Int)) => ref02_Left_l4s p1 s.1 s.2.1 s.2.2) (v4_6, v4_b0x0_0, v4_b0x0_1)

noncomputable def ref02_Left (p0 : api_Wide) (p1 : Int) : Option (api_Wide × Bool) :=
  cond (decide (p1 < (0:Int))) (
    some ((api_Wide.mk (0:Int) (0:Int)), false)) <|
  cond (p0.Hi == (0:Int) && (p0.Lo == (0:Int) && true)) (
    some (p0, true)) <|
  ref02_Left_l4 p1 (0:Int) p0.Hi p0.Lo

noncomputable def wide_Left (p0 : api_Wide) (p1 : Int) : Option (api_Wide × Bool) :=
  cond (decide (p1 < (0:Int))) (
    some ((api_Wide.mk (0:Int) (0:Int)), false)) <|
  let y3_1 := (wide_zero p0);
  cond y3_1 (
    some (p0, true)) <|
  Option.bind (wide_Bits p0) fun y5_2 =>
  cond (decide (p1 > (w64 ((128:Int) - y5_2)))) (
    some ((api_Wide.mk (0:Int) (0:Int)), false)) <|
  cond (decide (p1 ≥ (64:Int))) (
    ck (decide (0 ≤ (wu64 (w64 (p1 - (64:Int)))))) <|
    some ((api_Wide.mk (ishl .u64 p0.Lo (wu64 (w64 (p1 - (64:Int))))) (0:Int)), true)) <|
  ck (decide (0 ≤ (wu64 p1))) <|
  ck (decide (0 ≤ (wu64 (w64 ((64:Int) - p1))))) <|
  ck (decide (0 ≤ (wu64 p1))) <|
  some ((api_Wide.mk (ior .u64 (ishl .u64 p0.Hi (wu64 p1)) (ishr .u64 p0.Lo (wu64 (w64 ((64:Int) - p1))))) (ishl .u64 p0.Lo (wu64 p1))), true)

end Go.Win
