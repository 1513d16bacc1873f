/- The functions of the program and of the statements, as functions on plain data: made by program out of the translated code. -/
import Derived.Test.YtinffhpeahlhoaaGreatVc
set_option linter.unusedVariables false
namespace Go.Win
open Go.Vc Go.Dec

structure api_Entry where
  V : Int
  Min : Int
  Max : Int
  deriving Inhabited
def enc_api_Entry (p : api_Entry) : List AV := [.int .i64 p.V, .int .i64 p.Min, .int .i64 p.Max]
def wf_api_Entry (p : api_Entry) : Prop := (wfI .i64) p.V ∧ (wfI .i64) p.Min ∧ (wfI .i64) p.Max
def wfU_api_Entry (p : api_Entry) : Prop := (wfI .i64) p.V ∧ (wfI .i64) p.Min ∧ (wfI .i64) p.Max

structure api_Ranks where
  N : Int
  Entries : (List api_Entry)
  deriving Inhabited
def enc_api_Ranks (p : api_Ranks) : List AV := [.int .i64 p.N, .lst 3 false (List.map enc_api_Entry p.Entries)]
def wf_api_Ranks (p : api_Ranks) : Prop := (wfI .i64) p.N ∧ (wfL wf_api_Entry) p.Entries
def wfU_api_Ranks (p : api_Ranks) : Prop := (wfI .i64) p.N ∧ (wfLU wfU_api_Entry) p.Entries

structure api_Block where
  T : Int
  Last : Int
  Level : Int
  Ranks : api_Ranks
  deriving Inhabited
def enc_api_Block (p : api_Block) : List AV := [.int .i64 p.T, .int .i64 p.Last, .int .i64 p.Level, .int .i64 p.Ranks.N, .lst 3 false (List.map enc_api_Entry p.Ranks.Entries)]
def wf_api_Block (p : api_Block) : Prop := (wfI .i64) p.T ∧ (wfI .i64) p.Last ∧ (wfI .i64) p.Level ∧ wf_api_Ranks p.Ranks
def wfU_api_Block (p : api_Block) : Prop := (wfI .i64) p.T ∧ (wfI .i64) p.Last ∧ (wfI .i64) p.Level ∧ wfU_api_Ranks p.Ranks

structure api_Bucket where
  T : Int
  Level : Int
  deriving Inhabited
def enc_api_Bucket (p : api_Bucket) : List AV := [.int .i64 p.T, .int .i64 p.Level]
def wf_api_Bucket (p : api_Bucket) : Prop := (wfI .i64) p.T ∧ (wfI .i64) p.Level
def wfU_api_Bucket (p : api_Bucket) : Prop := (wfI .i64) p.T ∧ (wfI .i64) p.Level

structure api_Link where
  I : Int
  V : Int
  deriving Inhabited
def enc_api_Link (p : api_Link) : List AV := [.int .i64 p.I, .int .i64 p.V]
def wf_api_Link (p : api_Link) : Prop := (wfI .i64) p.I ∧ (wfI .i64) p.V
def wfU_api_Link (p : api_Link) : Prop := (wfI .i64) p.I ∧ (wfI .i64) p.V

structure api_Chain where
  W : Int
  Cap : Int
  I : Int
  Next : Int
  Links : (List api_Link)
  deriving Inhabited
def enc_api_Chain (p : api_Chain) : List AV := [.int .i64 p.W, .int .i64 p.Cap, .int .i64 p.I, .int .i64 p.Next, .lst 2 false (List.map enc_api_Link p.Links)]
def wf_api_Chain (p : api_Chain) : Prop := (wfI .i64) p.W ∧ (wfI .i64) p.Cap ∧ (wfI .i64) p.I ∧ (wfI .i64) p.Next ∧ (wfL wf_api_Link) p.Links
def wfU_api_Chain (p : api_Chain) : Prop := (wfI .i64) p.W ∧ (wfI .i64) p.Cap ∧ (wfI .i64) p.I ∧ (wfI .i64) p.Next ∧ (wfLU wfU_api_Link) p.Links

structure api_Config where
  Kind : Int
  Agg : Int
  W : Int
  K : Int
  Cap : Int
  P : Int
  Chains : Int
  Max : Int
  deriving Inhabited
def enc_api_Config (p : api_Config) : List AV := [.int .i64 p.Kind, .int .i64 p.Agg, .int .i64 p.W, .int .i64 p.K, .int .i64 p.Cap, .int .i64 p.P, .int .i64 p.Chains, .int .i64 p.Max]
def wf_api_Config (p : api_Config) : Prop := (wfI .i64) p.Kind ∧ (wfI .i64) p.Agg ∧ (wfI .i64) p.W ∧ (wfI .i64) p.K ∧ (wfI .i64) p.Cap ∧ (wfI .i64) p.P ∧ (wfI .i64) p.Chains ∧ (wfI .i64) p.Max
def wfU_api_Config (p : api_Config) : Prop := (wfI .i64) p.Kind ∧ (wfI .i64) p.Agg ∧ (wfI .i64) p.W ∧ (wfI .i64) p.K ∧ (wfI .i64) p.Cap ∧ (wfI .i64) p.P ∧ (wfI .i64) p.Chains ∧ (wfI .i64) p.Max

structure api_Count where
  W : Int
  K : Int
  Cap : Int
  Now : Int
  Buckets : (List api_Bucket)
  deriving Inhabited
def enc_api_Count (p : api_Count) : List AV := [.int .i64 p.W, .int .i64 p.K, .int .i64 p.Cap, .int .i64 p.Now, .lst 2 false (List.map enc_api_Bucket p.Buckets)]
def wf_api_Count (p : api_Count) : Prop := (wfI .i64) p.W ∧ (wfI .i64) p.K ∧ (wfI .i64) p.Cap ∧ (wfI .i64) p.Now ∧ (wfL wf_api_Bucket) p.Buckets
def wfU_api_Count (p : api_Count) : Prop := (wfI .i64) p.W ∧ (wfI .i64) p.K ∧ (wfI .i64) p.Cap ∧ (wfI .i64) p.Now ∧ (wfLU wfU_api_Bucket) p.Buckets

structure api_Item where
  T : Int
  V : Int
  deriving Inhabited
def enc_api_Item (p : api_Item) : List AV := [.int .i64 p.T, .int .i64 p.V]
def wf_api_Item (p : api_Item) : Prop := (wfI .i64) p.T ∧ (wfI .i64) p.V
def wfU_api_Item (p : api_Item) : Prop := (wfI .i64) p.T ∧ (wfI .i64) p.V

structure api_Extreme where
  Max : Bool
  W : Int
  Cap : Int
  Now : Int
  Items : (List api_Item)
  deriving Inhabited
def enc_api_Extreme (p : api_Extreme) : List AV := [.sb p.Max, .int .i64 p.W, .int .i64 p.Cap, .int .i64 p.Now, .lst 2 false (List.map enc_api_Item p.Items)]
def wf_api_Extreme (p : api_Extreme) : Prop := (fun _ : Bool => True) p.Max ∧ (wfI .i64) p.W ∧ (wfI .i64) p.Cap ∧ (wfI .i64) p.Now ∧ (wfL wf_api_Item) p.Items
def wfU_api_Extreme (p : api_Extreme) : Prop := (fun _ : Bool => True) p.Max ∧ (wfI .i64) p.W ∧ (wfI .i64) p.Cap ∧ (wfI .i64) p.Now ∧ (wfLU wfU_api_Item) p.Items

structure api_Halve where
  Now : Int
  Sums : (List Int)
  deriving Inhabited
def enc_api_Halve (p : api_Halve) : List AV := [.int .i64 p.Now, .lst 1 false (List.map (eI .i64) p.Sums)]
def wf_api_Halve (p : api_Halve) : Prop := (wfI .i64) p.Now ∧ (wfL (wfI .i64)) p.Sums
def wfU_api_Halve (p : api_Halve) : Prop := (wfI .i64) p.Now ∧ (wfLU (wfI .i64)) p.Sums

structure api_Mark where
  Seq : Int
  T : Int
  N : Int
  S : Int
  Q : Int
  Min : Int
  Max : Int
  deriving Inhabited
def enc_api_Mark (p : api_Mark) : List AV := [.int .i64 p.Seq, .int .i64 p.T, .int .i64 p.N, .int .i64 p.S, .int .i64 p.Q, .int .i64 p.Min, .int .i64 p.Max]
def wf_api_Mark (p : api_Mark) : Prop := (wfI .i64) p.Seq ∧ (wfI .i64) p.T ∧ (wfI .i64) p.N ∧ (wfI .i64) p.S ∧ (wfI .i64) p.Q ∧ (wfI .i64) p.Min ∧ (wfI .i64) p.Max
def wfU_api_Mark (p : api_Mark) : Prop := (wfI .i64) p.Seq ∧ (wfI .i64) p.T ∧ (wfI .i64) p.N ∧ (wfI .i64) p.S ∧ (wfI .i64) p.Q ∧ (wfI .i64) p.Min ∧ (wfI .i64) p.Max

structure api_Wide where
  Hi : Int
  Lo : Int
  deriving Inhabited
def enc_api_Wide (p : api_Wide) : List AV := [.int .u64 p.Hi, .int .u64 p.Lo]
def wf_api_Wide (p : api_Wide) : Prop := (wfI .u64) p.Hi ∧ (wfI .u64) p.Lo
def wfU_api_Wide (p : api_Wide) : Prop := (wfI .u64) p.Hi ∧ (wfI .u64) p.Lo

structure api_Poly where
  P : Int
  Land : Int
  Now : Int
  Moments : (List api_Wide)
  deriving Inhabited
def enc_api_Poly (p : api_Poly) : List AV := [.int .i64 p.P, .int .i64 p.Land, .int .i64 p.Now, .lst 2 false (List.map enc_api_Wide p.Moments)]
def wf_api_Poly (p : api_Poly) : Prop := (wfI .i64) p.P ∧ (wfI .i64) p.Land ∧ (wfI .i64) p.Now ∧ (wfL wf_api_Wide) p.Moments
def wfU_api_Poly (p : api_Poly) : Prop := (wfI .i64) p.P ∧ (wfI .i64) p.Land ∧ (wfI .i64) p.Now ∧ (wfLU wfU_api_Wide) p.Moments

structure api_Quantile where
  W : Int
  K : Int
  Cap : Int
  Now : Int
  Blocks : (List api_Block)
  deriving Inhabited
def enc_api_Quantile (p : api_Quantile) : List AV := [.int .i64 p.W, .int .i64 p.K, .int .i64 p.Cap, .int .i64 p.Now, .lst 5 false (List.map enc_api_Block p.Blocks)]
def wf_api_Quantile (p : api_Quantile) : Prop := (wfI .i64) p.W ∧ (wfI .i64) p.K ∧ (wfI .i64) p.Cap ∧ (wfI .i64) p.Now ∧ (wfL wf_api_Block) p.Blocks
def wfU_api_Quantile (p : api_Quantile) : Prop := (wfI .i64) p.W ∧ (wfI .i64) p.K ∧ (wfI .i64) p.Cap ∧ (wfI .i64) p.Now ∧ (wfLU wfU_api_Block) p.Blocks

structure api_Recent where
  W : Int
  Cap : Int
  Now : Int
  Items : (List api_Item)
  deriving Inhabited
def enc_api_Recent (p : api_Recent) : List AV := [.int .i64 p.W, .int .i64 p.Cap, .int .i64 p.Now, .lst 2 false (List.map enc_api_Item p.Items)]
def wf_api_Recent (p : api_Recent) : Prop := (wfI .i64) p.W ∧ (wfI .i64) p.Cap ∧ (wfI .i64) p.Now ∧ (wfL wf_api_Item) p.Items
def wfU_api_Recent (p : api_Recent) : Prop := (wfI .i64) p.W ∧ (wfI .i64) p.Cap ∧ (wfI .i64) p.Now ∧ (wfLU wfU_api_Item) p.Items

structure api_Sample where
  Chains : (List api_Chain)
  deriving Inhabited
def enc_api_Sample (p : api_Sample) : List AV := [.lst 5 false (List.map enc_api_Chain p.Chains)]
def wf_api_Sample (p : api_Sample) : Prop := (wfL wf_api_Chain) p.Chains
def wfU_api_Sample (p : api_Sample) : Prop := (wfLU wfU_api_Chain) p.Chains

structure api_Smooth where
  Agg : Int
  W : Int
  K : Int
  Cap : Int
  Now : Int
  Seq : Int
  Marks : (List api_Mark)
  deriving Inhabited
def enc_api_Smooth (p : api_Smooth) : List AV := [.int .i64 p.Agg, .int .i64 p.W, .int .i64 p.K, .int .i64 p.Cap, .int .i64 p.Now, .int .i64 p.Seq, .lst 7 false (List.map enc_api_Mark p.Marks)]
def wf_api_Smooth (p : api_Smooth) : Prop := (wfI .i64) p.Agg ∧ (wfI .i64) p.W ∧ (wfI .i64) p.K ∧ (wfI .i64) p.Cap ∧ (wfI .i64) p.Now ∧ (wfI .i64) p.Seq ∧ (wfL wf_api_Mark) p.Marks
def wfU_api_Smooth (p : api_Smooth) : Prop := (wfI .i64) p.Agg ∧ (wfI .i64) p.W ∧ (wfI .i64) p.K ∧ (wfI .i64) p.Cap ∧ (wfI .i64) p.Now ∧ (wfI .i64) p.Seq ∧ (wfLU wfU_api_Mark) p.Marks

structure api_Spread where
  W : Int
  K : Int
  Cap : Int
  Now : Int
  Seq : Int
  Marks : (List api_Mark)
  deriving Inhabited
def enc_api_Spread (p : api_Spread) : List AV := [.int .i64 p.W, .int .i64 p.K, .int .i64 p.Cap, .int .i64 p.Now, .int .i64 p.Seq, .lst 7 false (List.map enc_api_Mark p.Marks)]
def wf_api_Spread (p : api_Spread) : Prop := (wfI .i64) p.W ∧ (wfI .i64) p.K ∧ (wfI .i64) p.Cap ∧ (wfI .i64) p.Now ∧ (wfI .i64) p.Seq ∧ (wfL wf_api_Mark) p.Marks
def wfU_api_Spread (p : api_Spread) : Prop := (wfI .i64) p.W ∧ (wfI .i64) p.K ∧ (wfI .i64) p.Cap ∧ (wfI .i64) p.Now ∧ (wfI .i64) p.Seq ∧ (wfLU wfU_api_Mark) p.Marks

structure api_Sum where
  W : Int
  K : Int
  Cap : Int
  Max : Int
  Now : Int
  Buckets : (List api_Bucket)
  deriving Inhabited
def enc_api_Sum (p : api_Sum) : List AV := [.int .i64 p.W, .int .i64 p.K, .int .i64 p.Cap, .int .i64 p.Max, .int .i64 p.Now, .lst 2 false (List.map enc_api_Bucket p.Buckets)]
def wf_api_Sum (p : api_Sum) : Prop := (wfI .i64) p.W ∧ (wfI .i64) p.K ∧ (wfI .i64) p.Cap ∧ (wfI .i64) p.Max ∧ (wfI .i64) p.Now ∧ (wfL wf_api_Bucket) p.Buckets
def wfU_api_Sum (p : api_Sum) : Prop := (wfI .i64) p.W ∧ (wfI .i64) p.K ∧ (wfI .i64) p.Cap ∧ (wfI .i64) p.Max ∧ (wfI .i64) p.Now ∧ (wfLU wfU_api_Bucket) p.Buckets

structure api_Tuple where
  V : Int
  G : Int
  D : Int
  deriving Inhabited
def enc_api_Tuple (p : api_Tuple) : List AV := [.int .i64 p.V, .int .i64 p.G, .int .i64 p.D]
def wf_api_Tuple (p : api_Tuple) : Prop := (wfI .i64) p.V ∧ (wfI .i64) p.G ∧ (wfI .i64) p.D
def wfU_api_Tuple (p : api_Tuple) : Prop := (wfI .i64) p.V ∧ (wfI .i64) p.G ∧ (wfI .i64) p.D

structure api_Summary where
  K : Int
  Cap : Int
  N : Int
  Tuples : (List api_Tuple)
  deriving Inhabited
def enc_api_Summary (p : api_Summary) : List AV := [.int .i64 p.K, .int .i64 p.Cap, .int .i64 p.N, .lst 3 false (List.map enc_api_Tuple p.Tuples)]
def wf_api_Summary (p : api_Summary) : Prop := (wfI .i64) p.K ∧ (wfI .i64) p.Cap ∧ (wfI .i64) p.N ∧ (wfL wf_api_Tuple) p.Tuples
def wfU_api_Summary (p : api_Summary) : Prop := (wfI .i64) p.K ∧ (wfI .i64) p.Cap ∧ (wfI .i64) p.N ∧ (wfLU wfU_api_Tuple) p.Tuples

structure api_Synopsis where
  Config : api_Config
  Recent : api_Recent
  Count : api_Count
  Sum : api_Sum
  Smooth : api_Smooth
  Spread : api_Spread
  Poly : api_Poly
  Halve : api_Halve
  Extreme : api_Extreme
  Sample : api_Sample
  Summary : api_Summary
  Quantile : api_Quantile
  deriving Inhabited
def enc_api_Synopsis (p : api_Synopsis) : List AV := [.int .i64 p.Config.Kind, .int .i64 p.Config.Agg, .int .i64 p.Config.W, .int .i64 p.Config.K, .int .i64 p.Config.Cap, .int .i64 p.Config.P, .int .i64 p.Config.Chains, .int .i64 p.Config.Max, .int .i64 p.Recent.W, .int .i64 p.Recent.Cap, .int .i64 p.Recent.Now, .lst 2 false (List.map enc_api_Item p.Recent.Items), .int .i64 p.Count.W, .int .i64 p.Count.K, .int .i64 p.Count.Cap, .int .i64 p.Count.Now, .lst 2 false (List.map enc_api_Bucket p.Count.Buckets), .int .i64 p.Sum.W, .int .i64 p.Sum.K, .int .i64 p.Sum.Cap, .int .i64 p.Sum.Max, .int .i64 p.Sum.Now, .lst 2 false (List.map enc_api_Bucket p.Sum.Buckets), .int .i64 p.Smooth.Agg, .int .i64 p.Smooth.W, .int .i64 p.Smooth.K, .int .i64 p.Smooth.Cap, .int .i64 p.Smooth.Now, .int .i64 p.Smooth.Seq, .lst 7 false (List.map enc_api_Mark p.Smooth.Marks), .int .i64 p.Spread.W, .int .i64 p.Spread.K, .int .i64 p.Spread.Cap, .int .i64 p.Spread.Now, .int .i64 p.Spread.Seq, .lst 7 false (List.map enc_api_Mark p.Spread.Marks), .int .i64 p.Poly.P, .int .i64 p.Poly.Land, .int .i64 p.Poly.Now, .lst 2 false (List.map enc_api_Wide p.Poly.Moments), .int .i64 p.Halve.Now, .lst 1 false (List.map (eI .i64) p.Halve.Sums), .sb p.Extreme.Max, .int .i64 p.Extreme.W, .int .i64 p.Extreme.Cap, .int .i64 p.Extreme.Now, .lst 2 false (List.map enc_api_Item p.Extreme.Items), .lst 5 false (List.map enc_api_Chain p.Sample.Chains), .int .i64 p.Summary.K, .int .i64 p.Summary.Cap, .int .i64 p.Summary.N, .lst 3 false (List.map enc_api_Tuple p.Summary.Tuples), .int .i64 p.Quantile.W, .int .i64 p.Quantile.K, .int .i64 p.Quantile.Cap, .int .i64 p.Quantile.Now, .lst 5 false (List.map enc_api_Block p.Quantile.Blocks)]
def wf_api_Synopsis (p : api_Synopsis) : Prop := wf_api_Config p.Config ∧ wf_api_Recent p.Recent ∧ wf_api_Count p.Count ∧ wf_api_Sum p.Sum ∧ wf_api_Smooth p.Smooth ∧ wf_api_Spread p.Spread ∧ wf_api_Poly p.Poly ∧ wf_api_Halve p.Halve ∧ wf_api_Extreme p.Extreme ∧ wf_api_Sample p.Sample ∧ wf_api_Summary p.Summary ∧ wf_api_Quantile p.Quantile
def wfU_api_Synopsis (p : api_Synopsis) : Prop := wfU_api_Config p.Config ∧ wfU_api_Recent p.Recent ∧ wfU_api_Count p.Count ∧ wfU_api_Sum p.Sum ∧ wfU_api_Smooth p.Smooth ∧ wfU_api_Spread p.Spread ∧ wfU_api_Poly p.Poly ∧ wfU_api_Halve p.Halve ∧ wfU_api_Extreme p.Extreme ∧ wfU_api_Sample p.Sample ∧ wfU_api_Summary p.Summary ∧ wfU_api_Quantile p.Quantile

noncomputable def num_CeilDiv (p0 : Int) (p1 : Int) : Option (Int × Bool) :=
  cond ((p1 == (0:Int)) || ((p0 == (-9223372036854775808:Int)) && (p1 == (-1:Int)))) (
    some ((0:Int), false)) <|
  ck (decide (p1 ≠ 0)) <|
  ck (decide (p1 ≠ 0)) <|
  cond (((Int.tmod p0 p1) != (0:Int)) && ((decide (p0 < (0:Int))) == (decide (p1 < (0:Int))))) (
    some ((w64 ((w64 (Int.tdiv p0 p1)) + (1:Int))), true)) <|
  some ((w64 (Int.tdiv p0 p1)), true)

noncomputable def blocks_Allowed_l3s (p0 : Int) (p1 : Int) (v3_5 : Int) (v3_6 : Int) : Option ((Int × Int) ⊕ Int) :=
  cond (decide (v3_6 ≤ p0)) (
    ck (decide (0 ≤ (wu64 v3_6))) <|
    cond (decide ((ishl .i64 (1:Int) (wu64 v3_6)) > (w64 (p1 + (1:Int))))) (
      Option.bind (num_CeilDiv (w64 ((ishl .i64 (1:Int) (wu64 v3_6)) - (1:Int))) p1) fun y9_3 =>
      some (.inl ((w64 ((w64 ((2:Int) * v3_5)) + y9_3.1)), (w64 (v3_6 + (1:Int)))))) <|
    some (.inl (v3_5, (w64 (v3_6 + (1:Int)))))) <|
  Option.map Sum.inr (some v3_5)

noncomputable def blocks_Allowed_l3 (p0 : Int) (p1 : Int) (v3_5 : Int) (v3_6 : Int) : Option Int :=
  loop (fun (s : (Int × Int)) => blocks_Allowed_l3s p0 p1 s.1 s.2) (v3_5, v3_6)

noncomputable def blocks_Allowed (p0 : Int) (p1 : Int) : Option Int :=
  cond ((((decide (p0 < (0:Int))) || (decide (p0 > (30:Int)))) || (decide (p1 < (1:Int)))) || (decide (p1 > (65536:Int)))) (
    some (-1:Int)) <|
  blocks_Allowed_l3 p0 p1 (0:Int) (0:Int)

noncomputable def blocks_plain_l2s (p0 : (List api_Block)) (v2_3 : (List api_Bucket)) (v2_8 : Int) : Option (((List api_Bucket) × Int) ⊕ (List api_Bucket)) :=
  cond (decide (v2_8 < (p0.length : Int))) (
    Option.bind (idx p0 v2_8) fun x4_0 =>
    ck (decide ((v2_3.length + [(api_Bucket.mk x4_0.T x4_0.Level)].length) * 16 ≤ 140737488355328)) <|
    some (.inl ((v2_3 ++ [(api_Bucket.mk x4_0.T x4_0.Level)]), (w64 (v2_8 + (1:Int)))))) <|
  Option.map Sum.inr (some v2_3)

noncomputable def blocks_plain_l2 (p0 : (List api_Block)) (v2_3 : (List api_Bucket)) (v2_8 : Int) : Option (List api_Bucket) :=
  loop (fun (s : ((List api_Bucket) × Int)) => blocks_plain_l2s p0 s.1 s.2) (v2_3, v2_8)

noncomputable def blocks_plain (p0 : (List api_Block)) : Option (List api_Bucket) :=
  blocks_plain_l2 p0 ([] : List api_Bucket) (0:Int)

noncomputable def buckets_level (p0 : Int) : Bool :=
  ((decide (p0 ≥ (0:Int))) && (decide (p0 ≤ (30:Int))))

noncomputable def buckets_Total_l2s (p0 : (List api_Bucket)) (v2_3 : Int) (v2_8 : Int) : Option ((Int × Int) ⊕ Int) :=
  cond (decide (v2_8 < (p0.length : Int))) (
    Option.bind (idx p0 v2_8) fun x4_0 =>
    let y5_2 := (buckets_level x4_0.Level);
    cond y5_2 (
      ck (decide (0 ≤ (wu64 x4_0.Level))) <|
      some (.inl ((w64 (v2_3 + (ishl .i64 (1:Int) (wu64 x4_0.Level)))), (w64 (v2_8 + (1:Int)))))) <|
    some (.inl (v2_3, (w64 (v2_8 + (1:Int)))))) <|
  Option.map Sum.inr (some v2_3)

noncomputable def buckets_Total_l2 (p0 : (List api_Bucket)) (v2_3 : Int) (v2_8 : Int) : Option Int :=
  loop (fun (s : (Int × Int)) => buckets_Total_l2s p0 s.1 s.2) (v2_3, v2_8)

noncomputable def buckets_Total (p0 : (List api_Bucket)) : Option Int :=
  buckets_Total_l2 p0 (0:Int) (0:Int)

noncomputable def blocks_Total (p0 : (List api_Block)) : Option Int :=
  Option.bind (blocks_plain p0) fun y1_1 =>
  Option.bind (buckets_Total y1_1) fun y1_2 =>
  some y1_2

noncomputable def buckets_tick (p0 : Int) : Bool :=
  ((decide (p0 ≥ (0:Int))) && (decide (p0 ≤ (16777216:Int))))

noncomputable def buckets_Valid_l10s (p1 : Int) (v3_b3x0_0 : Int) (v3_b3x0_1 : Int) (v3_b3x0_2 : Int) (v3_b3x0_3 : Int) (v3_b3x0_4 : Int) (v3_b3x0_5 : Int) (v3_b3x0_6 : Int) (v3_b3x0_7 : Int) (v3_b3x0_8 : Int) (v3_b3x0_9 : Int) (v3_b3x0_10 : Int) (v3_b3x0_11 : Int) (v3_b3x0_12 : Int) (v3_b3x0_13 : Int) (v3_b3x0_14 : Int) (v3_b3x0_15 : Int) (v3_b3x0_16 : Int) (v3_b3x0_17 : Int) (v3_b3x0_18 : Int) (v3_b3x0_19 : Int) (v3_b3x0_20 : Int) (v3_b3x0_21 : Int) (v3_b3x0_22 : Int) (v3_b3x0_23 : Int) (v3_b3x0_24 : Int) (v3_b3x0_25 : Int) (v3_b3x0_26 : Int) (v3_b3x0_27 : Int) (v3_b3x0_28 : Int) (v3_b3x0_29 : Int) (v3_b3x0_30 : Int) (x15_1 : api_Bucket) (v10_9 : Int) : Option (Int ⊕ Bool) :=
  cond (decide (v10_9 ≤ x15_1.Level)) (
    Option.bind (idx [v3_b3x0_0, v3_b3x0_1, v3_b3x0_2, v3_b3x0_3, v3_b3x0_4, v3_b3x0_5, v3_b3x0_6, v3_b3x0_7, v3_b3x0_8, v3_b3x0_9, v3_b3x0_10, v3_b3x0_11, v3_b3x0_12, v3_b3x0_13, v3_b3x0_14, v3_b3x0_15, v3_b3x0_16, v3_b3x0_17, v3_b3x0_18, v3_b3x0_19, v3_b3x0_20, v3_b3x0_21, v3_b3x0_22, v3_b3x0_23, v3_b3x0_24, v3_b3x0_25, v3_b3x0_26, v3_b3x0_27, v3_b3x0_28, v3_b3x0_29, v3_b3x0_30] v10_9) fun x19_1 =>
    Option.bind (idx [v3_b3x0_0, v3_b3x0_1, v3_b3x0_2, v3_b3x0_3, v3_b3x0_4, v3_b3x0_5, v3_b3x0_6, v3_b3x0_7, v3_b3x0_8, v3_b3x0_9, v3_b3x0_10, v3_b3x0_11, v3_b3x0_12, v3_b3x0_13, v3_b3x0_14, v3_b3x0_15, v3_b3x0_16, v3_b3x0_17, v3_b3x0_18, v3_b3x0_19, v3_b3x0_20, v3_b3x0_21, v3_b3x0_22, v3_b3x0_23, v3_b3x0_24, v3_b3x0_25, v3_b3x0_26, v3_b3x0_27, v3_b3x0_28, v3_b3x0_29, v3_b3x0_30] v10_9) fun x19_2 =>
    Option.bind (gd ((!(decide (x19_2 > (w64 (p1 + (1:Int)))))) && (decide (v10_9 < x15_1.Level))) (idx [v3_b3x0_0, v3_b3x0_1, v3_b3x0_2, v3_b3x0_3, v3_b3x0_4, v3_b3x0_5, v3_b3x0_6, v3_b3x0_7, v3_b3x0_8, v3_b3x0_9, v3_b3x0_10, v3_b3x0_11, v3_b3x0_12, v3_b3x0_13, v3_b3x0_14, v3_b3x0_15, v3_b3x0_16, v3_b3x0_17, v3_b3x0_18, v3_b3x0_19, v3_b3x0_20, v3_b3x0_21, v3_b3x0_22, v3_b3x0_23, v3_b3x0_24, v3_b3x0_25, v3_b3x0_26, v3_b3x0_27, v3_b3x0_28, v3_b3x0_29, v3_b3x0_30] v10_9)) fun x19_12 =>
    Option.bind (gd ((!(decide (x19_2 > (w64 (p1 + (1:Int)))))) && (decide (v10_9 < x15_1.Level))) (idx [v3_b3x0_0, v3_b3x0_1, v3_b3x0_2, v3_b3x0_3, v3_b3x0_4, v3_b3x0_5, v3_b3x0_6, v3_b3x0_7, v3_b3x0_8, v3_b3x0_9, v3_b3x0_10, v3_b3x0_11, v3_b3x0_12, v3_b3x0_13, v3_b3x0_14, v3_b3x0_15, v3_b3x0_16, v3_b3x0_17, v3_b3x0_18, v3_b3x0_19, v3_b3x0_20, v3_b3x0_21, v3_b3x0_22, v3_b3x0_23, v3_b3x0_24, v3_b3x0_25, v3_b3x0_26, v3_b3x0_27, v3_b3x0_28, v3_b3x0_29, v3_b3x0_30] v10_9)) fun x19_13 =>
    cond ((decide (x19_2 > (w64 (p1 + (1:Int))))) || ((decide (v10_9 < x15_1.Level)) && (decide (x19_13 < p1)))) (
      some (.inr false)) <|
    some (.inl (w64 (v10_9 + (1:Int))))) <|
  Option.map Sum.inr (some true)

noncomputable def buckets_Valid_l10 (p1 : Int) (v3_b3x0_0 : Int) (v3_b3x0_1 : Int) (v3_b3x0_2 : Int) (v3_b3x0_3 : Int) (v3_b3x0_4 : Int) (v3_b3x0_5 : Int) (v3_b3x0_6 : Int) (v3_b3x0_7 : Int) (v3_b3x0_8 : Int) (v3_b3x0_9 : Int) (v3_b3x0_10 : Int) (v3_b3x0_11 : Int) (v3_b3x0_12 : Int) (v3_b3x0_13 : Int) (v3_b3x0_14 : Int) (v3_b3x0_15 : Int) (v3_b3x0_16 : Int) (v3_b3x0_17 : Int) (v3_b3x0_18 : Int) (v3_b3x0_19 : Int) (v3_b3x0_20 : Int) (v3_b3x0_21 : Int) (v3_b3x0_22 : Int) (v3_b3x0_23 : Int) (v3_b3x0_24 : Int) (v3_b3x0_25 : Int) (v3_b3x0_26 : Int) (v3_b3x0_27 : Int) (v3_b3x0_28 : Int) (v3_b3x0_29 : Int) (v3_b3x0_30 : Int) (x15_1 : api_Bucket) (v10_9 : Int) : Option Bool :=
  loop (fun (s : Int) => buckets_Valid_l10s p1 v3_b3x0_0 v3_b3x0_1 v3_b3x0_2 v3_b3x0_3 v3_b3x0_4 v3_b3x0_5 v3_b3x0_6 v3_b3x0_7 v3_b3x0_8 v3_b3x0_9 v3_b3x0_10 v3_b3x0_11 v3_b3x0_12 v3_b3x0_13 v3_b3x0_14 v3_b3x0_15 v3_b3x0_16 v3_b3x0_17 v3_b3x0_18 v3_b3x0_19 v3_b3x0_20 v3_b3x0_21 v3_b3x0_22 v3_b3x0_23 v3_b3x0_24 v3_b3x0_25 v3_b3x0_26 v3_b3x0_27 v3_b3x0_28 v3_b3x0_29 v3_b3x0_30 x15_1 s) v10_9

noncomputable def buckets_Valid_l3s (p0 : (List api_Bucket)) (p1 : Int) (v3_18 : Int) (v3_b3x0_0 : Int) (v3_b3x0_1 : Int) (v3_b3x0_2 : Int) (v3_b3x0_3 : Int) (v3_b3x0_4 : Int) (v3_b3x0_5 : Int) (v3_b3x0_6 : Int) (v3_b3x0_7 : Int) (v3_b3x0_8 : Int) (v3_b3x0_9 : Int) (v3_b3x0_10 : Int) (v3_b3x0_11 : Int) (v3_b3x0_12 : Int) (v3_b3x0_13 : Int) (v3_b3x0_14 : Int) (v3_b3x0_15 : Int) (v3_b3x0_16 : Int) (v3_b3x0_17 : Int) (v3_b3x0_18 : Int) (v3_b3x0_19 : Int) (v3_b3x0_20 : Int) (v3_b3x0_21 : Int) (v3_b3x0_22 : Int) (v3_b3x0_23 : Int) (v3_b3x0_24 : Int) (v3_b3x0_25 : Int) (v3_b3x0_26 : Int) (v3_b3x0_27 : Int) (v3_b3x0_28 : Int) (v3_b3x0_29 : Int) (v3_b3x0_30 : Int) : Option ((Int × Int × Int × Int × Int × Int × Int × Int × Int × Int × Int × Int × Int × Int × Int × Int × Int × Int × Int × Int × Int × Int × Int × Int × Int × Int × Int × Int × Int × Int × Int × Int) ⊕ Bool) :=
  cond (decide (v3_18 < (p0.length : Int))) (
    Option.bind (idx p0 v3_18) fun x6_1 =>
    let y7_2 := (buckets_tick x6_1.T);
    let y7_7 := (buckets_level x6_1.Level);
    cond ((!y7_2) || (!y7_7)) (
      some (.inr false)) <|
    Option.bind (gd (decide (v3_18 > (0:Int))) (idx p0 (w64 (v3_18 - (1:Int))))) fun x9_6 =>
    Option.bind (gd ((decide (v3_18 > (0:Int))) && (!(decide (x9_6.T > x6_1.T)))) (idx p0 (w64 (v3_18 - (1:Int))))) fun x9_16 =>
    cond ((decide (v3_18 > (0:Int))) && ((decide (x9_6.T > x6_1.T)) || (decide (x9_16.Level < x6_1.Level)))) (
      some (.inr false)) <|
    Option.bind (idx [v3_b3x0_0, v3_b3x0_1, v3_b3x0_2, v3_b3x0_3, v3_b3x0_4, v3_b3x0_5, v3_b3x0_6, v3_b3x0_7, v3_b3x0_8, v3_b3x0_9, v3_b3x0_10, v3_b3x0_11, v3_b3x0_12, v3_b3x0_13, v3_b3x0_14, v3_b3x0_15, v3_b3x0_16, v3_b3x0_17, v3_b3x0_18, v3_b3x0_19, v3_b3x0_20, v3_b3x0_21, v3_b3x0_22, v3_b3x0_23, v3_b3x0_24, v3_b3x0_25, v3_b3x0_26, v3_b3x0_27, v3_b3x0_28, v3_b3x0_29, v3_b3x0_30] x6_1.Level) fun x11_2 =>
    Option.bind (idx [v3_b3x0_0, v3_b3x0_1, v3_b3x0_2, v3_b3x0_3, v3_b3x0_4, v3_b3x0_5, v3_b3x0_6, v3_b3x0_7, v3_b3x0_8, v3_b3x0_9, v3_b3x0_10, v3_b3x0_11, v3_b3x0_12, v3_b3x0_13, v3_b3x0_14, v3_b3x0_15, v3_b3x0_16, v3_b3x0_17, v3_b3x0_18, v3_b3x0_19, v3_b3x0_20, v3_b3x0_21, v3_b3x0_22, v3_b3x0_23, v3_b3x0_24, v3_b3x0_25, v3_b3x0_26, v3_b3x0_27, v3_b3x0_28, v3_b3x0_29, v3_b3x0_30] x6_1.Level) fun x11_3 =>
    Option.bind (idx [v3_b3x0_0, v3_b3x0_1, v3_b3x0_2, v3_b3x0_3, v3_b3x0_4, v3_b3x0_5, v3_b3x0_6, v3_b3x0_7, v3_b3x0_8, v3_b3x0_9, v3_b3x0_10, v3_b3x0_11, v3_b3x0_12, v3_b3x0_13, v3_b3x0_14, v3_b3x0_15, v3_b3x0_16, v3_b3x0_17, v3_b3x0_18, v3_b3x0_19, v3_b3x0_20, v3_b3x0_21, v3_b3x0_22, v3_b3x0_23, v3_b3x0_24, v3_b3x0_25, v3_b3x0_26, v3_b3x0_27, v3_b3x0_28, v3_b3x0_29, v3_b3x0_30] x6_1.Level) fun x11_5 =>
    Option.bind (idx [v3_b3x0_0, v3_b3x0_1, v3_b3x0_2, v3_b3x0_3, v3_b3x0_4, v3_b3x0_5, v3_b3x0_6, v3_b3x0_7, v3_b3x0_8, v3_b3x0_9, v3_b3x0_10, v3_b3x0_11, v3_b3x0_12, v3_b3x0_13, v3_b3x0_14, v3_b3x0_15, v3_b3x0_16, v3_b3x0_17, v3_b3x0_18, v3_b3x0_19, v3_b3x0_20, v3_b3x0_21, v3_b3x0_22, v3_b3x0_23, v3_b3x0_24, v3_b3x0_25, v3_b3x0_26, v3_b3x0_27, v3_b3x0_28, v3_b3x0_29, v3_b3x0_30] x6_1.Level) fun x11_6 =>
    some (.inl ((w64 (v3_18 + (1:Int))), (if (x6_1.Level).toNat = 0 then (w64 (x11_3 + (1:Int))) else v3_b3x0_0), (if (x6_1.Level).toNat = 1 then (w64 (x11_3 + (1:Int))) else v3_b3x0_1), (if (x6_1.Level).toNat = 2 then (w64 (x11_3 + (1:Int))) else v3_b3x0_2), (if (x6_1.Level).toNat = 3 then (w64 (x11_3 + (1:Int))) else v3_b3x0_3), (if (x6_1.Level).toNat = 4 then (w64 (x11_3 + (1:Int))) else v3_b3x0_4), (if (x6_1.Level).toNat = 5 then (w64 (x11_3 + (1:Int))) else v3_b3x0_5), (if (x6_1.Level).toNat = 6 then (w64 (x11_3 + (1:Int))) else v3_b3x0_6), (if (x6_1.Level).toNat = 7 then (w64 (x11_3 + (1:Int))) else v3_b3x0_7), (if (x6_1.Level).toNat = 8 then (w64 (x11_3 + (1:Int))) else v3_b3x0_8), (if (x6_1.Level).toNat = 9 then (w64 (x11_3 + (1:Int))) else v3_b3x0_9), (if (x6_1.Level).toNat = 10 then (w64 (x11_3 + (1:Int))) else v3_b3x0_10), (if (x6_1.Level).toNat = 11 then (w64 (x11_3 + (1:Int))) else v3_b3x0_11), (if (x6_1.Level).toNat = 12 then (w64 (x11_3 + (1:Int))) else v3_b3x0_12), (if (x6_1.Level).toNat = 13 then (w64 (x11_3 + (1:Int))) else v3_b3x0_13), (if (x6_1.Level).toNat = 14 then (w64 (x11_3 + (1:Int))) else v3_b3x0_14), (if (x6_1.Level).toNat = 15 then (w64 (x11_3 + (1:Int))) else v3_b3x0_15), (if (x6_1.Level).toNat = 16 then (w64 (x11_3 + (1:Int))) else v3_b3x0_16), (if (x6_1.Level).toNat = 17 then (w64 (x11_3 + (1:Int))) else v3_b3x0_17), (if (x6_1.Level).toNat = 18 then (w64 (x11_3 + (1:Int))) else v3_b3x0_18), (if (x6_1.Level).toNat = 19 then (w64 (x11_3 + (1:Int))) else v3_b3x0_19), (if (x6_1.Level).toNat = 20 then (w64 (x11_3 + (1:Int))) else v3_b3x0_20), (if (x6_1.Level).toNat = 21 then (w64 (x11_3 + (1:Int))) else v3_b3x0_21), (if (x6_1.Level).toNat = 22 then (w64 (x11_3 + (1:Int))) else v3_b3x0_22), (if (x6_1.Level).toNat = 23 then (w64 (x11_3 + (1:Int))) else v3_b3x0_23), (if (x6_1.Level).toNat = 24 then (w64 (x11_3 + (1:Int))) else v3_b3x0_24), (if (x6_1.Level).toNat = 25 then (w64 (x11_3 + (1:Int))) else v3_b3x0_25), (if (x6_1.Level).toNat = 26 then (w64 (x11_3 + (1:Int))) else v3_b3x0_26), (if (x6_1.Level).toNat = 27 then (w64 (x11_3 + (1:Int))) else v3_b3x0_27), (if (x6_1.Level).toNat = 28 then (w64 (x11_3 + (1:Int))) else v3_b3x0_28), (if (x6_1.Level).toNat = 29 then (w64 (x11_3 + (1:Int))) else v3_b3x0_29), (if (x6_1.Level).toNat = 30 then (w64 (x11_3 + (1:Int))) else v3_b3x0_30)))) <|
  Option.map Sum.inr (cond ((p0.length : Int) == (0:Int)) (
    some true) <|
  Option.bind (idx p0 (0:Int)) fun x15_1 =>
  buckets_Valid_l10 p1 v3_b3x0_0 v3_b3x0_1 v3_b3x0_2 v3_b3x0_3 v3_b3x0_4 v3_b3x0_5 v3_b3x0_6 v3_b3x0_7 v3_b3x0_8 v3_b3x0_9 v3_b3x0_10 v3_b3x0_11 v3_b3x0_12 v3_b3x0_13 v3_b3x0_14 v3_b3x0_15 v3_b3x0_16 v3_b3x0_17 v3_b3x0_18 v3_b3x0_19 v3_b3x0_20 v3_b3x0_21 v3_b3x0_22 v3_b3x0_23 v3_b3x0_24 v3_b3x0_25 v3_b3x0_26 v3_b3x0_27 v3_b3x0_28 v3_b3x0_29 v3_b3x0_30 x15_1 (0:Int))

noncomputable def buckets_Valid_l3 (p0 : (List api_Bucket)) (p1 : Int) (v3_18 : Int) (v3_b3x0_0 : Int) (v3_b3x0_1 : Int) (v3_b3x0_2 : Int) (v3_b3x0_3 : Int) (v3_b3x0_4 : Int) (v3_b3x0_5 : Int) (v3_b3x0_6 : Int) (v3_b3x0_7 : Int) (v3_b3x0_8 : Int) (v3_b3x0_9 : Int) (v3_b3x0_10 : Int) (v3_b3x0_11 : Int) (v3_b3x0_12 : Int) (v3_b3x0_13 : Int) (v3_b3x0_14 : Int) (v3_b3x0_15 : Int) (v3_b3x0_16 : Int) (v3_b3x0_17 : Int) (v3_b3x0_18 : Int) (v3_b3x0_19 : Int) (v3_b3x0_20 : Int) (v3_b3x0_21 : Int) (v3_b3x0_22 : Int) (v3_b3x0_23 : Int) (v3_b3x0_24 : Int) (v3_b3x0_25 : Int) (v3_b3x0_26 : Int) (v3_b3x0_27 : Int) (v3_b3x0_28 : Int) (v3_b3x0_29 : Int) (v3_b3x0_30 : Int) : Option Bool :=
  loop (fun (s : (Int × Int × Int × Int × Int × Int × Int × Int × Int × Int × Int × Int × Int × Int × Int × Int × Int × Int × Int × Int × Int × Int × Int × Int × Int × Int × Int × Int × Int × Int × Int × Int)) => buckets_Valid_l3s p0 p1 s.1 s.2.1 s.2.2.1 s.2.2.2.1 s.2.2.2.2.1 s.2.2.2.2.2.1 s.2.2.2.2.2.2.1 s.2.2.2.2.2.2.2.1 s.2.2.2.2.2.2.2.2.1 s.2.2.2.2.2.2.2.2.2.1 s.2.2.2.2.2.2.2.2.2.2.1 s.2.2.2.2.2.2.2.2.2.2.2.1 s.2.2.2.2.2.2.2.2.2.2.2.2.1 s.2.2.2.2.2.2.2.2.2.2.2.2.2.1 s.2.2.2.2.2.2.2.2.2.2.2.2.2.2.1 s.2.2.2.2.2.2.2.2.2.2.2.2.2.2.2.1 s.2.2.2.2.2.2.2.2.2.2.2.2.2.2.2.2.1 s.2.2.2.2.2.2.2.2.2.2.2.2.2.2.2.2.2.1 s.2.2.2.2.2.2.2.2.2.2.2.2.2.2.2.2.2.2.1 s.2.2.2.2.2.2.2.2.2.2.2.2.2.2.2.2.2.2.2.1 s.2.2.2.2.2.2.2.2.2.2.2.2.2.2.2.2.2.2.2.2.1 s.2.2.2.2.2.2.2.2.2.2.2.2.2.2.2.2.2.2.2.2.2.1 s.2.2.2.2.2.2.2.2.2.2.2.2.2.2.2.2.2.2.2.2.2.2.1 s.2.2.2.2.2.2.2.2.2.2.2.2.2.2.2.2.2.2.2.2.2.2.2.1 s.2.2.2.2.2.2.2.2.2.2.2.2.2.2.2.2.2.2.2.2.2.2.2.2.1 s.2.2.2.2.2.2.2.2.2.2.2.2.2.2.2.2.2.2.2.2.2.2.2.2.2.1 s.2.2.2.2.2.2.2.2.2.2.2.2.2.2.2.2.2.2.2.2.2.2.2.2.2.2.1 s.2.2.2.2.2.2.2.2.2.2.2.2.2.2.2.2.2.2.2.2.2.2.2.2.2.2.2.1 s.2.2.2.2.2.2.2.2.2.2.2.2.2.2.2.2.2.2.2.2.2.2.2.2.2.2.2.2.1 s.2.2.2.2.2.2.2.2.2.2.2.2.2.2.2.2.2.2.2.2.2.2.2.2.2.2.2.2.2.1 s.2.2.2.2.2.2.2.2.2.2.2.2.2.2.2.2.2.2.2.2.2.2.2.2.2.2.2.2.2.2.1 s.2.2.2.2.2.2.2.2.2.2.2.2.2.2.2.2.2.2.2.2.2.2.2.2.2.2.2.2.2.2.2) (v3_18, v3_b3x0_0, v3_b3x0_1, v3_b3x0_2, v3_b3x0_3, v3_b3x0_4, v3_b3x0_5, v3_b3x0_6, v3_b3x0_7, v3_b3x0_8, v3_b3x0_9, v3_b3x0_10, v3_b3x0_11, v3_b3x0_12, v3_b3x0_13, v3_b3x0_14, v3_b3x0_15, v3_b3x0_16, v3_b3x0_17, v3_b3x0_18, v3_b3x0_19, v3_b3x0_20, v3_b3x0_21, v3_b3x0_22, v3_b3x0_23, v3_b3x0_24, v3_b3x0_25, v3_b3x0_26, v3_b3x0_27, v3_b3x0_28, v3_b3x0_29, v3_b3x0_30)

noncomputable def buckets_Valid (p0 : (List api_Bucket)) (p1 : Int) : Option Bool :=
  cond ((decide (p1 < (1:Int))) || (decide (p1 > (128:Int)))) (
    some false) <|
  buckets_Valid_l3 p0 p1 (0:Int) (0:Int) (0:Int) (0:Int) (0:Int) (0:Int) (0:Int) (0:Int) (0:Int) (0:Int) (0:Int) (0:Int) (0:Int) (0:Int) (0:Int) (0:Int) (0:Int) (0:Int) (0:Int) (0:Int) (0:Int) (0:Int) (0:Int) (0:Int) (0:Int) (0:Int) (0:Int) (0:Int) (0:Int) (0:Int) (0:Int) (0:Int)

noncomputable def rank_Validate_l3s (p0 : api_Ranks) (v3_29 : Int) : Option (Int ⊕ Int) :=
  cond (decide (v3_29 < (p0.Entries.length : Int))) (
    Option.bind (idx p0.Entries v3_29) fun x6_1 =>
    cond (((decide (x6_1.Min < (1:Int))) || (decide (x6_1.Min > x6_1.Max))) || (decide (x6_1.Max > p0.N))) (
      some (.inr (2:Int))) <|
    cond (decide (v3_29 > (0:Int))) (
      Option.bind (idx p0.Entries (w64 (v3_29 - (1:Int)))) fun x10_4 =>
      cond (((decide (x10_4.V > x6_1.V)) || (decide (x10_4.Min ≥ x6_1.Min))) || (decide (x10_4.Max ≥ x6_1.Max))) (
        some (.inr (2:Int))) <|
      some (.inl (w64 (v3_29 + (1:Int))))) <|
    some (.inl (w64 (v3_29 + (1:Int))))) <|
  Option.map Sum.inr (Option.bind (gd (decide ((p0.Entries.length : Int) > (0:Int))) (idx p0.Entries (0:Int))) fun x14_5 =>
  Option.bind (gd ((decide ((p0.Entries.length : Int) > (0:Int))) && (!(x14_5.Max != (1:Int)))) (idx p0.Entries (w64 ((p0.Entries.length : Int) - (1:Int))))) fun x14_14 =>
  cond ((decide ((p0.Entries.length : Int) > (0:Int))) && ((x14_5.Max != (1:Int)) || (x14_14.Min != p0.N))) (
    some (2:Int)) <|
  some (0:Int))

noncomputable def rank_Validate_l3 (p0 : api_Ranks) (v3_29 : Int) : Option Int :=
  loop (fun (s : Int) => rank_Validate_l3s p0 s) v3_29

noncomputable def rank_Validate (p0 : api_Ranks) : Option Int :=
  cond (((decide (p0.N < (0:Int))) || (decide (p0.N > (1099511627776:Int)))) || (!(((p0.Entries.length : Int) == (0:Int)) == (p0.N == (0:Int))))) (
    some (2:Int)) <|
  rank_Validate_l3 p0 (0:Int)

noncomputable def rank_Gap_l3s (p0 : api_Ranks) (v3_3 : Int) (v3_4 : Int) : Option ((Int × Int) ⊕ Int) :=
  cond (decide (v3_4 < (p0.Entries.length : Int))) (
    Option.bind (idx p0.Entries v3_4) fun x7_4 =>
    Option.bind (idx p0.Entries (w64 (v3_4 - (1:Int)))) fun x7_11 =>
    some (.inl ((imax v3_3 (w64 (x7_4.Max - x7_11.Min))), (w64 (v3_4 + (1:Int)))))) <|
  Option.map Sum.inr (some v3_3)

noncomputable def rank_Gap_l3 (p0 : api_Ranks) (v3_3 : Int) (v3_4 : Int) : Option Int :=
  loop (fun (s : (Int × Int)) => rank_Gap_l3s p0 s.1 s.2) (v3_3, v3_4)

noncomputable def rank_Gap (p0 : api_Ranks) : Option Int :=
  Option.bind (rank_Validate p0) fun y1_1 =>
  cond ((y1_1 != (0:Int)) || ((p0.Entries.length : Int) == (0:Int))) (
    some (0:Int)) <|
  rank_Gap_l3 p0 (1:Int) (1:Int)

noncomputable def blocks_Valid_l3s (p0 : (List api_Block)) (p2 : Int) (v3_27 : Int) : Option (Int ⊕ Bool) :=
  cond (decide (v3_27 < (p0.length : Int))) (
    Option.bind (idx p0 v3_27) fun x5_0 =>
    Option.bind (rank_Validate x5_0.Ranks) fun y7_1 =>
    ck (!(!(y7_1 != (0:Int))) || (decide (0 ≤ (wu64 x5_0.Level)))) <|
    Option.bind (gd (!(((y7_1 != (0:Int)) || (x5_0.Ranks.N != (ishl .i64 (1:Int) (wu64 x5_0.Level)))) || (decide ((x5_0.Ranks.Entries.length : Int) > (w64 (p2 + (1:Int))))))) (rank_Gap x5_0.Ranks)) fun y7_22 =>
    Option.bind (gd (!(((y7_1 != (0:Int)) || (x5_0.Ranks.N != (ishl .i64 (1:Int) (wu64 x5_0.Level)))) || (decide ((x5_0.Ranks.Entries.length : Int) > (w64 (p2 + (1:Int))))))) (blocks_Allowed x5_0.Level p2)) fun y7_27 =>
    cond ((((y7_1 != (0:Int)) || (x5_0.Ranks.N != (ishl .i64 (1:Int) (wu64 x5_0.Level)))) || (decide ((x5_0.Ranks.Entries.length : Int) > (w64 (p2 + (1:Int)))))) || (decide ((w64 (y7_22 - (1:Int))) > y7_27))) (
      some (.inr false)) <|
    Option.bind (idx x5_0.Ranks.Entries (0:Int)) fun x9_2 =>
    Option.bind (idx x5_0.Ranks.Entries (w64 ((x5_0.Ranks.Entries.length : Int) - (1:Int)))) fun x9_11 =>
    cond ((((decide (x9_2.V < (-4096:Int))) || (decide (x9_11.V > (4096:Int)))) || (decide (x5_0.Last < x9_2.V))) || (decide (x5_0.Last > x9_11.V))) (
      some (.inr false)) <|
    some (.inl (w64 (v3_27 + (1:Int))))) <|
  Option.map Sum.inr (some true)

noncomputable def blocks_Valid_l3 (p0 : (List api_Block)) (p2 : Int) (v3_27 : Int) : Option Bool :=
  loop (fun (s : Int) => blocks_Valid_l3s p0 p2 s) v3_27

noncomputable def blocks_Valid (p0 : (List api_Block)) (p1 : Int) (p2 : Int) : Option Bool :=
  Option.bind (gd (!((decide (p2 < (1:Int))) || (decide (p2 > (65536:Int))))) (blocks_plain p0)) fun y1_8 =>
  Option.bind (gd (!((decide (p2 < (1:Int))) || (decide (p2 > (65536:Int))))) (buckets_Valid y1_8 p1)) fun y1_10 =>
  cond (((decide (p2 < (1:Int))) || (decide (p2 > (65536:Int)))) || (!y1_10)) (
    some false) <|
  blocks_Valid_l3 p0 p2 (0:Int)

noncomputable def chain_New (p0 : Int) (p1 : Int) : (api_Chain × Int) :=
  cond ((((decide (p0 < (1:Int))) || (decide (p0 > (1048576:Int)))) || (decide (p1 < (1:Int)))) || (decide (p1 > (64:Int)))) (
    ((api_Chain.mk (0:Int) (0:Int) (0:Int) (0:Int) ([] : List api_Link)), (1:Int))) <|
  ((api_Chain.mk p0 p1 (0:Int) (0:Int) ([] : List api_Link)), (0:Int))

noncomputable def chain_Validate_l6s (p0 : api_Chain) (v6_60 : Int) : Option (Int ⊕ Int) :=
  cond (decide (v6_60 < (p0.Links.length : Int))) (
    Option.bind (idx p0.Links v6_60) fun x11_1 =>
    cond (((((decide (x11_1.V < (-4096:Int))) || (decide (x11_1.V > (4096:Int)))) || (decide (x11_1.I < (1:Int)))) || (decide (x11_1.I > p0.I))) || (decide (x11_1.I ≤ (w64 (p0.I - p0.W))))) (
      some (.inr (2:Int))) <|
    Option.bind (gd (decide (v6_60 > (0:Int))) (idx p0.Links (w64 (v6_60 - (1:Int))))) fun x14_9 =>
    Option.bind (gd ((decide (v6_60 > (0:Int))) && (!(decide (x11_1.I ≤ x14_9.I)))) (idx p0.Links (w64 (v6_60 - (1:Int))))) fun x14_20 =>
    cond ((decide (v6_60 > (0:Int))) && ((decide (x11_1.I ≤ x14_9.I)) || (decide (x11_1.I > (w64 (x14_20.I + p0.W)))))) (
      some (.inr (2:Int))) <|
    some (.inl (w64 (v6_60 + (1:Int))))) <|
  Option.map Sum.inr (Option.bind (gd (!(decide (p0.Next ≤ p0.I))) (idx p0.Links (w64 ((p0.Links.length : Int) - (1:Int))))) fun x17_14 =>
  cond ((decide (p0.Next ≤ p0.I)) || (decide (p0.Next > (w64 (x17_14.I + p0.W))))) (
    some (2:Int)) <|
  some (0:Int))

noncomputable def chain_Validate_l6 (p0 : api_Chain) (v6_60 : Int) : Option Int :=
  loop (fun (s : Int) => chain_Validate_l6s p0 s) v6_60

noncomputable def chain_Validate (p0 : api_Chain) : Option Int :=
  cond (((((((decide (p0.W < (1:Int))) || (decide (p0.W > (1048576:Int)))) || (decide (p0.Cap < (1:Int)))) || (decide (p0.Cap > (64:Int)))) || (decide (p0.I < (0:Int)))) || (decide (p0.I > (1099511627776:Int)))) || (decide ((p0.Links.length : Int) > p0.Cap))) (
    some (2:Int)) <|
  cond (p0.I == (0:Int)) (
    cond ((decide ((p0.Links.length : Int) > (0:Int))) || (p0.Next != (0:Int))) (
      some (2:Int)) <|
    some (0:Int)) <|
  cond ((p0.Links.length : Int) == (0:Int)) (
    some (2:Int)) <|
  chain_Validate_l6 p0 (0:Int)

noncomputable def clock_tick (p0 : Int) : Bool :=
  ((decide (p0 ≥ (0:Int))) && (decide (p0 ≤ (16777216:Int))))

noncomputable def clock_First (p0 : Int) (p1 : Int) : Int :=
  let y1_1 := (clock_tick p0);
  cond (((!y1_1) || (decide (p1 < (1:Int)))) || (decide (p1 > (1048576:Int)))) (
    (-1:Int)) <|
  (imax (0:Int) (w64 ((w64 (p0 - p1)) + (1:Int))))

noncomputable def clock_Live (p0 : Int) (p1 : Int) (p2 : Int) : Bool :=
  let y1_2 := (clock_First p0 p1);
  let y2_4 := (clock_tick p2);
  ((((decide (y1_2 ≥ (0:Int))) && y2_4) && (decide (y1_2 ≤ p2))) && (decide (p2 ≤ p0)))

noncomputable def config_Validate_1_i1 (p0 : Bool) (b1_0 : Bool) (b2 : Int) : (Bool × Int) :=
  ((b1_0 && p0), (0:Int))

noncomputable def config_Validate_1_i2 (p0 : Bool) (b1_0 : Bool) (b2 : Int) (b3 : Int) : (Bool × Int × Int) :=
  ((b1_0 && p0), (0:Int), (0:Int))

noncomputable def config_in (p0 : Int) (p1 : Int) (p2 : Int) : Bool :=
  ((decide (p0 ≥ p1)) && (decide (p0 ≤ p2)))

noncomputable def config_Validate_j23 (p0 : api_Config) (y27_6 : (Bool × Int)) (y28_6 : (Bool × Int)) (j5_b0x0_1 : Int) (j23_b0x0_2 : Int) (j23_b1x0_0 : Bool) : Int :=
  cond ((!j23_b1x0_0) || (!(p0.Kind == p0.Kind && (j5_b0x0_1 == (0:Int) && (j23_b0x0_2 == (0:Int) && (y27_6.2 == (0:Int) && (y28_6.2 == (0:Int) && (p0.P == (0:Int) && (p0.Chains == (0:Int) && (p0.Max == (0:Int) && true)))))))))) (
    (1:Int)) <|
  (0:Int)

noncomputable def config_Validate_j5 (p0 : api_Config) (j5_b0x0_1 : Int) (j5_b1x0_0 : Bool) : Int :=
  let y27_3 := (config_in p0.K (1:Int) (64:Int));
  let y27_6 := (config_Validate_1_i1 y27_3 j5_b1x0_0 p0.K);
  let y28_3 := (config_in p0.Cap (1:Int) (65536:Int));
  let y28_6 := (config_Validate_1_i1 y28_3 y27_6.1 p0.Cap);
  cond (decide ((1048576:Int) > (0:Int))) (
    let y34_5 := (config_in p0.W (1:Int) (1048576:Int));
    config_Validate_j23 p0 y27_6 y28_6 j5_b0x0_1 (0:Int) (y28_6.1 && y34_5)) <|
  config_Validate_j23 p0 y27_6 y28_6 j5_b0x0_1 p0.W y28_6.1

noncomputable def config_Validate_j23_2 (p0 : api_Config) (y16_6 : (Bool × Int)) (j23_b0x0_2 : Int) (j23_b1x0_0 : Bool) : Int :=
  cond ((!j23_b1x0_0) || (!(p0.Kind == p0.Kind && (p0.Agg == (0:Int) && (j23_b0x0_2 == (0:Int) && (p0.K == (0:Int) && (p0.Cap == (0:Int) && (y16_6.2 == (0:Int) && (p0.Chains == (0:Int) && (p0.Max == (0:Int) && true)))))))))) (
    (1:Int)) <|
  (0:Int)

noncomputable def config_Validate_j23_3 (p0 : api_Config) (j23_b0x0_2 : Int) (j23_b1x0_0 : Bool) : Int :=
  cond ((!j23_b1x0_0) || (!(p0.Kind == p0.Kind && (p0.Agg == (0:Int) && (j23_b0x0_2 == (0:Int) && (p0.K == (0:Int) && (p0.Cap == (0:Int) && (p0.P == (0:Int) && (p0.Chains == (0:Int) && (p0.Max == (0:Int) && true)))))))))) (
    (1:Int)) <|
  (0:Int)

noncomputable def config_Validate_j23_4 (p0 : api_Config) (y19_12 : (Bool × Int × Int)) (j23_b0x0_2 : Int) (j23_b1x0_0 : Bool) : Int :=
  cond ((!j23_b1x0_0) || (!(p0.Kind == p0.Kind && (p0.Agg == (0:Int) && (j23_b0x0_2 == (0:Int) && (p0.K == (0:Int) && (y19_12.2.2 == (0:Int) && (p0.P == (0:Int) && (y19_12.2.1 == (0:Int) && (p0.Max == (0:Int) && true)))))))))) (
    (1:Int)) <|
  (0:Int)

noncomputable def config_Validate_j23_5 (p0 : api_Config) (y20_12 : (Bool × Int × Int)) (j23_b0x0_2 : Int) (j23_b1x0_0 : Bool) : Int :=
  cond ((!j23_b1x0_0) || (!(p0.Kind == p0.Kind && (p0.Agg == (0:Int) && (j23_b0x0_2 == (0:Int) && (y20_12.2.1 == (0:Int) && (y20_12.2.2 == (0:Int) && (p0.P == (0:Int) && (p0.Chains == (0:Int) && (p0.Max == (0:Int) && true)))))))))) (
    (1:Int)) <|
  (0:Int)

noncomputable def config_Validate_j23_6 (p0 : api_Config) (y24_6 : (Bool × Int)) (y25_6 : (Bool × Int)) (j23_b0x0_2 : Int) (j23_b1x0_0 : Bool) : Int :=
  cond ((!j23_b1x0_0) || (!(p0.Kind == p0.Kind && (p0.Agg == (0:Int) && (j23_b0x0_2 == (0:Int) && (y24_6.2 == (0:Int) && (y25_6.2 == (0:Int) && (p0.P == (0:Int) && (p0.Chains == (0:Int) && ((0:Int) == (0:Int) && true)))))))))) (
    (1:Int)) <|
  (0:Int)

noncomputable def config_Validate_j23_7 (p0 : api_Config) (y31_6 : (Bool × Int)) (j23_b0x0_2 : Int) (j23_b1x0_0 : Bool) : Int :=
  cond ((!j23_b1x0_0) || (!(p0.Kind == p0.Kind && (p0.Agg == (0:Int) && (j23_b0x0_2 == (0:Int) && (p0.K == (0:Int) && (y31_6.2 == (0:Int) && (p0.P == (0:Int) && (p0.Chains == (0:Int) && ((0:Int) == (0:Int) && true)))))))))) (
    (1:Int)) <|
  (0:Int)

noncomputable def config_Validate_j23_8 (p0 : api_Config) (y31_6 : (Bool × Int)) (j23_b0x0_2 : Int) (j23_b1x0_0 : Bool) : Int :=
  cond ((!j23_b1x0_0) || (!(p0.Kind == p0.Kind && (p0.Agg == (0:Int) && (j23_b0x0_2 == (0:Int) && (p0.K == (0:Int) && (y31_6.2 == (0:Int) && (p0.P == (0:Int) && (p0.Chains == (0:Int) && (p0.Max == (0:Int) && true)))))))))) (
    (1:Int)) <|
  (0:Int)

noncomputable def config_Validate_j18 (p0 : api_Config) (j18_21 : Bool) : Int :=
  cond j18_21 (
    config_Validate_j5 p0 p0.Agg true) <|
  cond (p0.Kind == (8:Int)) (
    let y29_2 := (config_in p0.Max (0:Int) (1:Int));
    let y31_3 := (config_in p0.Cap (1:Int) (65536:Int));
    let y31_6 := (config_Validate_1_i1 y31_3 y29_2 p0.Cap);
    cond (decide ((1048576:Int) > (0:Int))) (
      let y34_5 := (config_in p0.W (1:Int) (1048576:Int));
      config_Validate_j23_7 p0 y31_6 (0:Int) (y31_6.1 && y34_5)) <|
    config_Validate_j23_7 p0 y31_6 p0.W y31_6.1) <|
  cond (p0.Kind == (1:Int)) (
    let y31_3 := (config_in p0.Cap (1:Int) (65536:Int));
    let y31_6 := (config_Validate_1_i1 y31_3 true p0.Cap);
    cond (decide ((1048576:Int) > (0:Int))) (
      let y34_5 := (config_in p0.W (1:Int) (1048576:Int));
      config_Validate_j23_8 p0 y31_6 (0:Int) (y31_6.1 && y34_5)) <|
    config_Validate_j23_8 p0 y31_6 p0.W y31_6.1) <|
  (1:Int)

noncomputable def config_Validate (p0 : api_Config) : Int :=
  cond (p0.Kind == (6:Int)) (
    let y16_3 := (config_in p0.P (0:Int) (4:Int));
    let y16_6 := (config_Validate_1_i1 y16_3 true p0.P);
    cond (decide ((0:Int) > (0:Int))) (
      let y34_5 := (config_in p0.W (1:Int) (0:Int));
      config_Validate_j23_2 p0 y16_6 (0:Int) (y16_6.1 && y34_5)) <|
    config_Validate_j23_2 p0 y16_6 p0.W y16_6.1) <|
  cond (p0.Kind == (7:Int)) (
    cond (decide ((64:Int) > (0:Int))) (
      let y34_5 := (config_in p0.W (1:Int) (64:Int));
      config_Validate_j23_3 p0 (0:Int) y34_5) <|
    config_Validate_j23_3 p0 p0.W true) <|
  cond (p0.Kind == (9:Int)) (
    let y19_3 := (config_in p0.Chains (1:Int) (16:Int));
    let y19_7 := (config_in p0.Cap (1:Int) (64:Int));
    let y19_12 := (config_Validate_1_i2 (y19_3 && y19_7) true p0.Chains p0.Cap);
    cond (decide ((1048576:Int) > (0:Int))) (
      let y34_5 := (config_in p0.W (1:Int) (1048576:Int));
      config_Validate_j23_4 p0 y19_12 (0:Int) (y19_12.1 && y34_5)) <|
    config_Validate_j23_4 p0 y19_12 p0.W y19_12.1) <|
  cond (p0.Kind == (10:Int)) (
    let y20_3 := (config_in p0.K (1:Int) (64:Int));
    let y20_7 := (config_in p0.Cap (2:Int) (65536:Int));
    let y20_12 := (config_Validate_1_i2 (y20_3 && y20_7) true p0.K p0.Cap);
    cond (decide ((0:Int) > (0:Int))) (
      let y34_5 := (config_in p0.W (1:Int) (0:Int));
      config_Validate_j23_5 p0 y20_12 (0:Int) (y20_12.1 && y34_5)) <|
    config_Validate_j23_5 p0 y20_12 p0.W y20_12.1) <|
  cond (p0.Kind == (3:Int)) (
    let y22_2 := (config_in p0.Max (1:Int) (1024:Int));
    let y24_3 := (config_in p0.K (1:Int) (64:Int));
    let y24_6 := (config_Validate_1_i1 y24_3 y22_2 p0.K);
    let y25_3 := (config_in p0.Cap (1:Int) (65536:Int));
    let y25_6 := (config_Validate_1_i1 y25_3 y24_6.1 p0.Cap);
    cond (decide ((1048576:Int) > (0:Int))) (
      let y34_5 := (config_in p0.W (1:Int) (1048576:Int));
      config_Validate_j23_6 p0 y24_6 y25_6 (0:Int) (y25_6.1 && y34_5)) <|
    config_Validate_j23_6 p0 y24_6 y25_6 p0.W y25_6.1) <|
  cond (p0.Kind == (4:Int)) (
    let y26_3 := (config_in p0.Agg (1:Int) (4:Int));
    let y26_6 := (config_Validate_1_i1 y26_3 true p0.Agg);
    config_Validate_j5 p0 y26_6.2 y26_6.1) <|
  cond (p0.Kind == (2:Int)) (
    config_Validate_j18 p0 (p0.Kind == (2:Int))) <|
  cond (p0.Kind == (5:Int)) (
    config_Validate_j18 p0 (p0.Kind == (5:Int))) <|
  config_Validate_j18 p0 (p0.Kind == (11:Int))

noncomputable def count_good (p0 : Int) (p1 : Int) (p2 : Int) (p3 : Int) : Bool :=
  ((((((((decide (p0 ≥ (1:Int))) && (decide (p0 ≤ (1048576:Int)))) && (decide (p1 ≥ (1:Int)))) && (decide (p1 ≤ (64:Int)))) && (decide (p2 ≥ (1:Int)))) && (decide (p2 ≤ (65536:Int)))) && (decide (p3 ≥ (0:Int)))) && (decide (p3 ≤ (16777216:Int))))

noncomputable def count_New (p0 : Int) (p1 : Int) (p2 : Int) (p3 : Int) : (api_Count × Int) :=
  let y1_4 := (count_good p0 p1 p2 p3);
  cond (!y1_4) (
    ((api_Count.mk (0:Int) (0:Int) (0:Int) (0:Int) ([] : List api_Bucket)), (1:Int))) <|
  ((api_Count.mk p0 p1 p2 p3 ([] : List api_Bucket)), (0:Int))

noncomputable def count_Validate_l3s (p0 : api_Count) (v3_34 : Int) : Option (Int ⊕ Int) :=
  cond (decide (v3_34 < (p0.Buckets.length : Int))) (
    Option.bind (idx p0.Buckets v3_34) fun x5_0 =>
    let y6_6 := (clock_Live p0.Now p0.W x5_0.T);
    cond (!y6_6) (
      some (.inr (2:Int))) <|
    some (.inl (w64 (v3_34 + (1:Int))))) <|
  Option.map Sum.inr (some (0:Int))

noncomputable def count_Validate_l3 (p0 : api_Count) (v3_34 : Int) : Option Int :=
  loop (fun (s : Int) => count_Validate_l3s p0 s) v3_34

noncomputable def count_Validate (p0 : api_Count) : Option Int :=
  let y1_8 := (count_good p0.W p0.K p0.Cap p0.Now);
  Option.bind (gd (!(!y1_8)) (buckets_Valid p0.Buckets p0.K)) fun y1_15 =>
  Option.bind (gd (!((!y1_8) || (!y1_15))) (buckets_Total p0.Buckets)) fun y1_21 =>
  cond (((!y1_8) || (!y1_15)) || (decide (y1_21 > p0.Cap))) (
    some (2:Int)) <|
  count_Validate_l3 p0 (0:Int)

noncomputable def exact_tick (p0 : Int) : Bool :=
  ((decide (p0 ≥ (0:Int))) && (decide (p0 ≤ (16777216:Int))))

noncomputable def exact_Valid_l3s (p0 : (List api_Item)) (p1 : Int) (v3_12 : Int) : Option (Int ⊕ Bool) :=
  cond (decide (v3_12 < (p0.length : Int))) (
    Option.bind (idx p0 v3_12) fun x5_1 =>
    Option.bind (gd ((!((decide (x5_1.T < (0:Int))) || (decide (x5_1.T > p1)))) && (decide (v3_12 > (0:Int)))) (idx p0 (w64 (v3_12 - (1:Int))))) fun x6_16 =>
    cond (((decide (x5_1.T < (0:Int))) || (decide (x5_1.T > p1))) || ((decide (v3_12 > (0:Int))) && (decide (x6_16.T > x5_1.T)))) (
      some (.inr false)) <|
    some (.inl (w64 (v3_12 + (1:Int))))) <|
  Option.map Sum.inr (some true)

noncomputable def exact_Valid_l3 (p0 : (List api_Item)) (p1 : Int) (v3_12 : Int) : Option Bool :=
  loop (fun (s : Int) => exact_Valid_l3s p0 p1 s) v3_12

noncomputable def exact_Valid (p0 : (List api_Item)) (p1 : Int) : Option Bool :=
  let y1_1 := (exact_tick p1);
  cond (!y1_1) (
    some false) <|
  exact_Valid_l3 p0 p1 (0:Int)

noncomputable def extreme_good (p0 : Int) (p1 : Int) (p2 : Int) : Bool :=
  ((((((decide (p0 ≥ (1:Int))) && (decide (p0 ≤ (1048576:Int)))) && (decide (p1 ≥ (1:Int)))) && (decide (p1 ≤ (65536:Int)))) && (decide (p2 ≥ (0:Int)))) && (decide (p2 ≤ (16777216:Int))))

noncomputable def extreme_New (p0 : Bool) (p1 : Int) (p2 : Int) (p3 : Int) : (api_Extreme × Int) :=
  let y1_3 := (extreme_good p1 p2 p3);
  cond (!y1_3) (
    ((api_Extreme.mk false (0:Int) (0:Int) (0:Int) ([] : List api_Item)), (1:Int))) <|
  ((api_Extreme.mk p0 p1 p2 p3 ([] : List api_Item)), (0:Int))

noncomputable def extreme_beats (p0 : Bool) (p1 : Int) (p2 : Int) : Bool :=
  cond p0 (
    (decide (p1 ≥ p2))) <|
  (decide (p1 ≤ p2))

noncomputable def extreme_Validate_l3s (p0 : api_Extreme) (v3_24 : Int) : Option (Int ⊕ Int) :=
  cond (decide (v3_24 < (p0.Items.length : Int))) (
    Option.bind (idx p0.Items v3_24) fun x5_1 =>
    let y6_6 := (clock_Live p0.Now p0.W x5_1.T);
    cond (((!y6_6) || (decide (x5_1.V < (-4096:Int)))) || (decide (x5_1.V > (4096:Int)))) (
      some (.inr (2:Int))) <|
    Option.bind (gd (decide (v3_24 > (0:Int))) (idx p0.Items (w64 (v3_24 - (1:Int))))) fun x8_7 =>
    Option.bind (gd ((decide (v3_24 > (0:Int))) && (!(decide (x8_7.T ≥ x5_1.T)))) (idx p0.Items (w64 (v3_24 - (1:Int))))) fun x8_22 =>
    let y8_25 := (extreme_beats p0.Max x5_1.V x8_22.V);
    cond ((decide (v3_24 > (0:Int))) && ((decide (x8_7.T ≥ x5_1.T)) || y8_25)) (
      some (.inr (2:Int))) <|
    some (.inl (w64 (v3_24 + (1:Int))))) <|
  Option.map Sum.inr (some (0:Int))

noncomputable def extreme_Validate_l3 (p0 : api_Extreme) (v3_24 : Int) : Option Int :=
  loop (fun (s : Int) => extreme_Validate_l3s p0 s) v3_24

noncomputable def extreme_Validate (p0 : api_Extreme) : Option Int :=
  let y1_6 := (extreme_good p0.W p0.Cap p0.Now);
  cond ((!y1_6) || (decide ((p0.Items.length : Int) > p0.Cap))) (
    some (2:Int)) <|
  extreme_Validate_l3 p0 (0:Int)

noncomputable def halve_New (p0 : Int) (p1 : Int) : Option (api_Halve × Int) :=
  cond ((((decide (p0 < (1:Int))) || (decide (p0 > (64:Int)))) || (decide (p1 < (0:Int)))) || (decide (p1 > (16777216:Int)))) (
    some ((api_Halve.mk (0:Int) ([] : List Int)), (1:Int))) <|
  ck (decide (0 ≤ p0 ∧ p0 ≤ p0 ∧ p0 * 8 ≤ 140737488355328 ∧ p0 ≤ 140737488355328)) <|
  some ((api_Halve.mk p1 (List.replicate (p0).toNat (0:Int))), (0:Int))

noncomputable def halve_Validate_l3s (p0 : api_Halve) (v3_28 : Int) : Option (Int ⊕ Int) :=
  cond (decide (v3_28 < (p0.Sums.length : Int))) (
    Option.bind (idx p0.Sums v3_28) fun x5_1 =>
    cond (((decide (x5_1 < (0:Int))) || (decide (x5_1 > (1099511627776:Int)))) || ((x5_1 != (0:Int)) && (decide (v3_28 > p0.Now)))) (
      some (.inr (2:Int))) <|
    some (.inl (w64 (v3_28 + (1:Int))))) <|
  Option.map Sum.inr (some (0:Int))

noncomputable def halve_Validate_l3 (p0 : api_Halve) (v3_28 : Int) : Option Int :=
  loop (fun (s : Int) => halve_Validate_l3s p0 s) v3_28

noncomputable def halve_Validate (p0 : api_Halve) : Option Int :=
  cond ((((decide ((p0.Sums.length : Int) < (1:Int))) || (decide ((p0.Sums.length : Int) > (64:Int)))) || (decide (p0.Now < (0:Int)))) || (decide (p0.Now > (16777216:Int)))) (
    some (2:Int)) <|
  halve_Validate_l3 p0 (0:Int)

noncomputable def poly_tick (p0 : Int) : Bool :=
  ((decide (p0 ≥ (0:Int))) && (decide (p0 ≤ (16777216:Int))))

noncomputable def poly_New (p0 : Int) (p1 : Int) : Option (api_Poly × Int) :=
  let y1_8 := (poly_tick p1);
  cond (((decide (p0 < (0:Int))) || (decide (p0 > (4:Int)))) || (!y1_8)) (
    some ((api_Poly.mk (0:Int) (0:Int) (0:Int) ([] : List api_Wide)), (1:Int))) <|
  ck (decide (0 ≤ (w64 (p0 + (1:Int))) ∧ (w64 (p0 + (1:Int))) ≤ (w64 (p0 + (1:Int))) ∧ (w64 (p0 + (1:Int))) * 16 ≤ 140737488355328 ∧ (w64 (p0 + (1:Int))) ≤ 140737488355328)) <|
  some ((api_Poly.mk p0 p1 p1 (List.replicate ((w64 (p0 + (1:Int)))).toNat (api_Wide.mk (0:Int) (0:Int)))), (0:Int))

noncomputable def quantile_good (p0 : Int) (p1 : Int) (p2 : Int) (p3 : Int) : Bool :=
  ((((((((decide (p0 ≥ (1:Int))) && (decide (p0 ≤ (1048576:Int)))) && (decide (p1 ≥ (1:Int)))) && (decide (p1 ≤ (64:Int)))) && (decide (p2 ≥ (1:Int)))) && (decide (p2 ≤ (65536:Int)))) && (decide (p3 ≥ (0:Int)))) && (decide (p3 ≤ (16777216:Int))))

noncomputable def quantile_New (p0 : Int) (p1 : Int) (p2 : Int) (p3 : Int) : (api_Quantile × Int) :=
  let y1_4 := (quantile_good p0 p1 p2 p3);
  cond (!y1_4) (
    ((api_Quantile.mk (0:Int) (0:Int) (0:Int) (0:Int) ([] : List api_Block)), (1:Int))) <|
  ((api_Quantile.mk p0 p1 p2 p3 ([] : List api_Block)), (0:Int))

noncomputable def recent_good (p0 : Int) (p1 : Int) (p2 : Int) : Bool :=
  ((((((decide (p0 ≥ (1:Int))) && (decide (p0 ≤ (1048576:Int)))) && (decide (p1 ≥ (1:Int)))) && (decide (p1 ≤ (65536:Int)))) && (decide (p2 ≥ (0:Int)))) && (decide (p2 ≤ (16777216:Int))))

noncomputable def recent_New (p0 : Int) (p1 : Int) (p2 : Int) : (api_Recent × Int) :=
  let y1_3 := (recent_good p0 p1 p2);
  cond (!y1_3) (
    ((api_Recent.mk (0:Int) (0:Int) (0:Int) ([] : List api_Item)), (1:Int))) <|
  ((api_Recent.mk p0 p1 p2 ([] : List api_Item)), (0:Int))

noncomputable def sample_New_l3s (p0 : Int) (p1 : Int) (p2 : Int) (v3_19 : Int) (v3_b3x0_0 : (List api_Chain)) : Option ((Int × (List api_Chain)) ⊕ (api_Sample × Int)) :=
  cond (decide (v3_19 < p0)) (
    let y6_2 := (chain_New p1 p2);
    cond (y6_2.2 != (0:Int)) (
      some (.inr ((api_Sample.mk ([] : List api_Chain)), y6_2.2))) <|
    ck (decide ((v3_b3x0_0.length + [y6_2.1].length) * 56 ≤ 140737488355328)) <|
    some (.inl ((w64 (v3_19 + (1:Int))), (v3_b3x0_0 ++ [y6_2.1])))) <|
  Option.map Sum.inr (some ((api_Sample.mk v3_b3x0_0), (0:Int)))

noncomputable def sample_New_l3 (p0 : Int) (p1 : Int) (p2 : Int) (v3_19 : Int) (v3_b3x0_0 : (List api_Chain)) : Option (api_Sample × Int) :=
  loop (fun (s : (Int × (List api_Chain))) => sample_New_l3s p0 p1 p2 s.1 s.2) (v3_19, v3_b3x0_0)

noncomputable def sample_New (p0 : Int) (p1 : Int) (p2 : Int) : Option (api_Sample × Int) :=
  cond ((decide (p0 < (1:Int))) || (decide (p0 > (16:Int)))) (
    some ((api_Sample.mk ([] : List api_Chain)), (1:Int))) <|
  sample_New_l3 p0 p1 p2 (0:Int) ([] : List api_Chain)

noncomputable def marks_Good (p0 : Int) (p1 : Int) (p2 : Int) (p3 : Int) : Bool :=
  ((((((((decide (p0 ≥ (1:Int))) && (decide (p0 ≤ (1048576:Int)))) && (decide (p1 ≥ (1:Int)))) && (decide (p1 ≤ (64:Int)))) && (decide (p2 ≥ (1:Int)))) && (decide (p2 ≤ (65536:Int)))) && (decide (p3 ≥ (0:Int)))) && (decide (p3 ≤ (16777216:Int))))

noncomputable def smooth_good (p0 : Int) (p1 : Int) (p2 : Int) (p3 : Int) (p4 : Int) : Bool :=
  let y1_11 := (marks_Good p1 p2 p3 p4);
  (((decide (p0 ≥ (1:Int))) && (decide (p0 ≤ (4:Int)))) && y1_11)

noncomputable def smooth_New (p0 : Int) (p1 : Int) (p2 : Int) (p3 : Int) (p4 : Int) : (api_Smooth × Int) :=
  let y1_5 := (smooth_good p0 p1 p2 p3 p4);
  cond (!y1_5) (
    ((api_Smooth.mk (0:Int) (0:Int) (0:Int) (0:Int) (0:Int) (0:Int) ([] : List api_Mark)), (1:Int))) <|
  ((api_Smooth.mk p0 p1 p2 p3 p4 (0:Int) ([] : List api_Mark)), (0:Int))

noncomputable def spread_New (p0 : Int) (p1 : Int) (p2 : Int) (p3 : Int) : (api_Spread × Int) :=
  let y1_4 := (marks_Good p0 p1 p2 p3);
  cond (!y1_4) (
    ((api_Spread.mk (0:Int) (0:Int) (0:Int) (0:Int) (0:Int) ([] : List api_Mark)), (1:Int))) <|
  ((api_Spread.mk p0 p1 p2 p3 (0:Int) ([] : List api_Mark)), (0:Int))

noncomputable def sum_good (p0 : Int) (p1 : Int) (p2 : Int) (p3 : Int) (p4 : Int) : Bool :=
  ((((((((((decide (p0 ≥ (1:Int))) && (decide (p0 ≤ (1048576:Int)))) && (decide (p1 ≥ (1:Int)))) && (decide (p1 ≤ (64:Int)))) && (decide (p2 ≥ (1:Int)))) && (decide (p2 ≤ (65536:Int)))) && (decide (p3 ≥ (1:Int)))) && (decide (p3 ≤ (1024:Int)))) && (decide (p4 ≥ (0:Int)))) && (decide (p4 ≤ (16777216:Int))))

noncomputable def sum_New (p0 : Int) (p1 : Int) (p2 : Int) (p3 : Int) (p4 : Int) : (api_Sum × Int) :=
  let y1_5 := (sum_good p0 p1 p2 p3 p4);
  cond (!y1_5) (
    ((api_Sum.mk (0:Int) (0:Int) (0:Int) (0:Int) (0:Int) ([] : List api_Bucket)), (1:Int))) <|
  ((api_Sum.mk p0 p1 p2 p3 p4 ([] : List api_Bucket)), (0:Int))

noncomputable def summary_New (p0 : Int) (p1 : Int) : (api_Summary × Int) :=
  cond ((((decide (p0 < (1:Int))) || (decide (p0 > (64:Int)))) || (decide (p1 < (2:Int)))) || (decide (p1 > (65536:Int)))) (
    ((api_Summary.mk (0:Int) (0:Int) (0:Int) ([] : List api_Tuple)), (1:Int))) <|
  ((api_Summary.mk p0 p1 (0:Int) ([] : List api_Tuple)), (0:Int))

noncomputable def synopsis_tick (p0 : Int) : Bool :=
  ((decide (p0 ≥ (0:Int))) && (decide (p0 ≤ (16777216:Int))))

noncomputable def synopsis_New_j4 (p0 : api_Config) (j4_8 : Int) (j4_b6x2_8 : Int) (j4_b6x2_9 : Int) (j4_b6x2_10 : Int) (j4_b6x2_11 : (List api_Item)) (j4_b6x2_12 : Int) (j4_b6x2_13 : Int) (j4_b6x2_14 : Int) (j4_b6x2_15 : Int) (j4_b6x2_16 : (List api_Bucket)) (j4_b6x2_17 : Int) (j4_b6x2_18 : Int) (j4_b6x2_19 : Int) (j4_b6x2_20 : Int) (j4_b6x2_21 : Int) (j4_b6x2_22 : (List api_Bucket)) (j4_b6x2_23 : Int) (j4_b6x2_24 : Int) (j4_b6x2_25 : Int) (j4_b6x2_26 : Int) (j4_b6x2_27 : Int) (j4_b6x2_28 : Int) (j4_b6x2_29 : (List api_Mark)) (j4_b6x2_30 : Int) (j4_b6x2_31 : Int) (j4_b6x2_32 : Int) (j4_b6x2_33 : Int) (j4_b6x2_34 : Int) (j4_b6x2_35 : (List api_Mark)) (j4_b6x2_36 : Int) (j4_b6x2_37 : Int) (j4_b6x2_38 : Int) (j4_b6x2_39 : (List api_Wide)) (j4_b6x2_40 : Int) (j4_b6x2_41 : (List Int)) (j4_b6x2_42 : Bool) (j4_b6x2_43 : Int) (j4_b6x2_44 : Int) (j4_b6x2_45 : Int) (j4_b6x2_46 : (List api_Item)) (j4_b6x2_47 : (List api_Chain)) (j4_b6x2_48 : Int) (j4_b6x2_49 : Int) (j4_b6x2_50 : Int) (j4_b6x2_51 : (List api_Tuple)) (j4_b6x2_52 : Int) (j4_b6x2_53 : Int) (j4_b6x2_54 : Int) (j4_b6x2_55 : Int) (j4_b6x2_56 : (List api_Block)) : Option (api_Synopsis × Int) :=
  cond (j4_8 != (0:Int)) (
    some ((api_Synopsis.mk (api_Config.mk (0:Int) (0:Int) (0:Int) (0:Int) (0:Int) (0:Int) (0:Int) (0:Int)) (api_Recent.mk (0:Int) (0:Int) (0:Int) ([] : List api_Item)) (api_Count.mk (0:Int) (0:Int) (0:Int) (0:Int) ([] : List api_Bucket)) (api_Sum.mk (0:Int) (0:Int) (0:Int) (0:Int) (0:Int) ([] : List api_Bucket)) (api_Smooth.mk (0:Int) (0:Int) (0:Int) (0:Int) (0:Int) (0:Int) ([] : List api_Mark)) (api_Spread.mk (0:Int) (0:Int) (0:Int) (0:Int) (0:Int) ([] : List api_Mark)) (api_Poly.mk (0:Int) (0:Int) (0:Int) ([] : List api_Wide)) (api_Halve.mk (0:Int) ([] : List Int)) (api_Extreme.mk false (0:Int) (0:Int) (0:Int) ([] : List api_Item)) (api_Sample.mk ([] : List api_Chain)) (api_Summary.mk (0:Int) (0:Int) (0:Int) ([] : List api_Tuple)) (api_Quantile.mk (0:Int) (0:Int) (0:Int) (0:Int) ([] : List api_Block))), j4_8)) <|
  some ((api_Synopsis.mk p0 (api_Recent.mk j4_b6x2_8 j4_b6x2_9 j4_b6x2_10 j4_b6x2_11) (api_Count.mk j4_b6x2_12 j4_b6x2_13 j4_b6x2_14 j4_b6x2_15 j4_b6x2_16) (api_Sum.mk j4_b6x2_17 j4_b6x2_18 j4_b6x2_19 j4_b6x2_20 j4_b6x2_21 j4_b6x2_22) (api_Smooth.mk j4_b6x2_23 j4_b6x2_24 j4_b6x2_25 j4_b6x2_26 j4_b6x2_27 j4_b6x2_28 j4_b6x2_29) (api_Spread.mk j4_b6x2_30 j4_b6x2_31 j4_b6x2_32 j4_b6x2_33 j4_b6x2_34 j4_b6x2_35) (api_Poly.mk j4_b6x2_36 j4_b6x2_37 j4_b6x2_38 j4_b6x2_39) (api_Halve.mk j4_b6x2_40 j4_b6x2_41) (api_Extreme.mk j4_b6x2_42 j4_b6x2_43 j4_b6x2_44 j4_b6x2_45 j4_b6x2_46) (api_Sample.mk j4_b6x2_47) (api_Summary.mk j4_b6x2_48 j4_b6x2_49 j4_b6x2_50 j4_b6x2_51) (api_Quantile.mk j4_b6x2_52 j4_b6x2_53 j4_b6x2_54 j4_b6x2_55 j4_b6x2_56)), (0:Int))

noncomputable def synopsis_New (p0 : api_Config) (p1 : Int) : Option (api_Synopsis × Int) :=
  let y1_1 := (config_Validate p0);
  cond (y1_1 != (0:Int)) (
    some ((api_Synopsis.mk (api_Config.mk (0:Int) (0:Int) (0:Int) (0:Int) (0:Int) (0:Int) (0:Int) (0:Int)) (api_Recent.mk (0:Int) (0:Int) (0:Int) ([] : List api_Item)) (api_Count.mk (0:Int) (0:Int) (0:Int) (0:Int) ([] : List api_Bucket)) (api_Sum.mk (0:Int) (0:Int) (0:Int) (0:Int) (0:Int) ([] : List api_Bucket)) (api_Smooth.mk (0:Int) (0:Int) (0:Int) (0:Int) (0:Int) (0:Int) ([] : List api_Mark)) (api_Spread.mk (0:Int) (0:Int) (0:Int) (0:Int) (0:Int) ([] : List api_Mark)) (api_Poly.mk (0:Int) (0:Int) (0:Int) ([] : List api_Wide)) (api_Halve.mk (0:Int) ([] : List Int)) (api_Extreme.mk false (0:Int) (0:Int) (0:Int) ([] : List api_Item)) (api_Sample.mk ([] : List api_Chain)) (api_Summary.mk (0:Int) (0:Int) (0:Int) ([] : List api_Tuple)) (api_Quantile.mk (0:Int) (0:Int) (0:Int) (0:Int) ([] : List api_Block))), y1_1)) <|
  let y4_1 := (synopsis_tick p1);
  cond (!y4_1) (
    some ((api_Synopsis.mk (api_Config.mk (0:Int) (0:Int) (0:Int) (0:Int) (0:Int) (0:Int) (0:Int) (0:Int)) (api_Recent.mk (0:Int) (0:Int) (0:Int) ([] : List api_Item)) (api_Count.mk (0:Int) (0:Int) (0:Int) (0:Int) ([] : List api_Bucket)) (api_Sum.mk (0:Int) (0:Int) (0:Int) (0:Int) (0:Int) ([] : List api_Bucket)) (api_Smooth.mk (0:Int) (0:Int) (0:Int) (0:Int) (0:Int) (0:Int) ([] : List api_Mark)) (api_Spread.mk (0:Int) (0:Int) (0:Int) (0:Int) (0:Int) ([] : List api_Mark)) (api_Poly.mk (0:Int) (0:Int) (0:Int) ([] : List api_Wide)) (api_Halve.mk (0:Int) ([] : List Int)) (api_Extreme.mk false (0:Int) (0:Int) (0:Int) ([] : List api_Item)) (api_Sample.mk ([] : List api_Chain)) (api_Summary.mk (0:Int) (0:Int) (0:Int) ([] : List api_Tuple)) (api_Quantile.mk (0:Int) (0:Int) (0:Int) (0:Int) ([] : List api_Block))), (1:Int))) <|
  cond (p0.Kind == (1:Int)) (
    let y10_5 := (recent_New p0.W p0.Cap p1);
    synopsis_New_j4 p0 y10_5.2 y10_5.1.W y10_5.1.Cap y10_5.1.Now y10_5.1.Items (0:Int) (0:Int) (0:Int) (0:Int) ([] : List api_Bucket) (0:Int) (0:Int) (0:Int) (0:Int) (0:Int) ([] : List api_Bucket) (0:Int) (0:Int) (0:Int) (0:Int) (0:Int) (0:Int) ([] : List api_Mark) (0:Int) (0:Int) (0:Int) (0:Int) (0:Int) ([] : List api_Mark) (0:Int) (0:Int) (0:Int) ([] : List api_Wide) (0:Int) ([] : List Int) false (0:Int) (0:Int) (0:Int) ([] : List api_Item) ([] : List api_Chain) (0:Int) (0:Int) (0:Int) ([] : List api_Tuple) (0:Int) (0:Int) (0:Int) (0:Int) ([] : List api_Block)) <|
  cond (p0.Kind == (2:Int)) (
    let y12_7 := (count_New p0.W p0.K p0.Cap p1);
    synopsis_New_j4 p0 y12_7.2 (0:Int) (0:Int) (0:Int) ([] : List api_Item) y12_7.1.W y12_7.1.K y12_7.1.Cap y12_7.1.Now y12_7.1.Buckets (0:Int) (0:Int) (0:Int) (0:Int) (0:Int) ([] : List api_Bucket) (0:Int) (0:Int) (0:Int) (0:Int) (0:Int) (0:Int) ([] : List api_Mark) (0:Int) (0:Int) (0:Int) (0:Int) (0:Int) ([] : List api_Mark) (0:Int) (0:Int) (0:Int) ([] : List api_Wide) (0:Int) ([] : List Int) false (0:Int) (0:Int) (0:Int) ([] : List api_Item) ([] : List api_Chain) (0:Int) (0:Int) (0:Int) ([] : List api_Tuple) (0:Int) (0:Int) (0:Int) (0:Int) ([] : List api_Block)) <|
  cond (p0.Kind == (3:Int)) (
    let y14_9 := (sum_New p0.W p0.K p0.Cap p0.Max p1);
    synopsis_New_j4 p0 y14_9.2 (0:Int) (0:Int) (0:Int) ([] : List api_Item) (0:Int) (0:Int) (0:Int) (0:Int) ([] : List api_Bucket) y14_9.1.W y14_9.1.K y14_9.1.Cap y14_9.1.Max y14_9.1.Now y14_9.1.Buckets (0:Int) (0:Int) (0:Int) (0:Int) (0:Int) (0:Int) ([] : List api_Mark) (0:Int) (0:Int) (0:Int) (0:Int) (0:Int) ([] : List api_Mark) (0:Int) (0:Int) (0:Int) ([] : List api_Wide) (0:Int) ([] : List Int) false (0:Int) (0:Int) (0:Int) ([] : List api_Item) ([] : List api_Chain) (0:Int) (0:Int) (0:Int) ([] : List api_Tuple) (0:Int) (0:Int) (0:Int) (0:Int) ([] : List api_Block)) <|
  cond (p0.Kind == (4:Int)) (
    let y16_9 := (smooth_New p0.Agg p0.W p0.K p0.Cap p1);
    synopsis_New_j4 p0 y16_9.2 (0:Int) (0:Int) (0:Int) ([] : List api_Item) (0:Int) (0:Int) (0:Int) (0:Int) ([] : List api_Bucket) (0:Int) (0:Int) (0:Int) (0:Int) (0:Int) ([] : List api_Bucket) y16_9.1.Agg y16_9.1.W y16_9.1.K y16_9.1.Cap y16_9.1.Now y16_9.1.Seq y16_9.1.Marks (0:Int) (0:Int) (0:Int) (0:Int) (0:Int) ([] : List api_Mark) (0:Int) (0:Int) (0:Int) ([] : List api_Wide) (0:Int) ([] : List Int) false (0:Int) (0:Int) (0:Int) ([] : List api_Item) ([] : List api_Chain) (0:Int) (0:Int) (0:Int) ([] : List api_Tuple) (0:Int) (0:Int) (0:Int) (0:Int) ([] : List api_Block)) <|
  cond (p0.Kind == (5:Int)) (
    let y18_7 := (spread_New p0.W p0.K p0.Cap p1);
    synopsis_New_j4 p0 y18_7.2 (0:Int) (0:Int) (0:Int) ([] : List api_Item) (0:Int) (0:Int) (0:Int) (0:Int) ([] : List api_Bucket) (0:Int) (0:Int) (0:Int) (0:Int) (0:Int) ([] : List api_Bucket) (0:Int) (0:Int) (0:Int) (0:Int) (0:Int) (0:Int) ([] : List api_Mark) y18_7.1.W y18_7.1.K y18_7.1.Cap y18_7.1.Now y18_7.1.Seq y18_7.1.Marks (0:Int) (0:Int) (0:Int) ([] : List api_Wide) (0:Int) ([] : List Int) false (0:Int) (0:Int) (0:Int) ([] : List api_Item) ([] : List api_Chain) (0:Int) (0:Int) (0:Int) ([] : List api_Tuple) (0:Int) (0:Int) (0:Int) (0:Int) ([] : List api_Block)) <|
  cond (p0.Kind == (6:Int)) (
    Option.bind (poly_New p0.P p1) fun y20_3 =>
    synopsis_New_j4 p0 y20_3.2 (0:Int) (0:Int) (0:Int) ([] : List api_Item) (0:Int) (0:Int) (0:Int) (0:Int) ([] : List api_Bucket) (0:Int) (0:Int) (0:Int) (0:Int) (0:Int) ([] : List api_Bucket) (0:Int) (0:Int) (0:Int) (0:Int) (0:Int) (0:Int) ([] : List api_Mark) (0:Int) (0:Int) (0:Int) (0:Int) (0:Int) ([] : List api_Mark) y20_3.1.P y20_3.1.Land y20_3.1.Now y20_3.1.Moments (0:Int) ([] : List Int) false (0:Int) (0:Int) (0:Int) ([] : List api_Item) ([] : List api_Chain) (0:Int) (0:Int) (0:Int) ([] : List api_Tuple) (0:Int) (0:Int) (0:Int) (0:Int) ([] : List api_Block)) <|
  cond (p0.Kind == (7:Int)) (
    Option.bind (halve_New p0.W p1) fun y22_3 =>
    synopsis_New_j4 p0 y22_3.2 (0:Int) (0:Int) (0:Int) ([] : List api_Item) (0:Int) (0:Int) (0:Int) (0:Int) ([] : List api_Bucket) (0:Int) (0:Int) (0:Int) (0:Int) (0:Int) ([] : List api_Bucket) (0:Int) (0:Int) (0:Int) (0:Int) (0:Int) (0:Int) ([] : List api_Mark) (0:Int) (0:Int) (0:Int) (0:Int) (0:Int) ([] : List api_Mark) (0:Int) (0:Int) (0:Int) ([] : List api_Wide) y22_3.1.Now y22_3.1.Sums false (0:Int) (0:Int) (0:Int) ([] : List api_Item) ([] : List api_Chain) (0:Int) (0:Int) (0:Int) ([] : List api_Tuple) (0:Int) (0:Int) (0:Int) (0:Int) ([] : List api_Block)) <|
  cond (p0.Kind == (8:Int)) (
    let y24_8 := (extreme_New (p0.Max == (1:Int)) p0.W p0.Cap p1);
    synopsis_New_j4 p0 y24_8.2 (0:Int) (0:Int) (0:Int) ([] : List api_Item) (0:Int) (0:Int) (0:Int) (0:Int) ([] : List api_Bucket) (0:Int) (0:Int) (0:Int) (0:Int) (0:Int) ([] : List api_Bucket) (0:Int) (0:Int) (0:Int) (0:Int) (0:Int) (0:Int) ([] : List api_Mark) (0:Int) (0:Int) (0:Int) (0:Int) (0:Int) ([] : List api_Mark) (0:Int) (0:Int) (0:Int) ([] : List api_Wide) (0:Int) ([] : List Int) y24_8.1.Max y24_8.1.W y24_8.1.Cap y24_8.1.Now y24_8.1.Items ([] : List api_Chain) (0:Int) (0:Int) (0:Int) ([] : List api_Tuple) (0:Int) (0:Int) (0:Int) (0:Int) ([] : List api_Block)) <|
  cond (p0.Kind == (9:Int)) (
    Option.bind (sample_New p0.Chains p0.W p0.Cap) fun y26_6 =>
    synopsis_New_j4 p0 y26_6.2 (0:Int) (0:Int) (0:Int) ([] : List api_Item) (0:Int) (0:Int) (0:Int) (0:Int) ([] : List api_Bucket) (0:Int) (0:Int) (0:Int) (0:Int) (0:Int) ([] : List api_Bucket) (0:Int) (0:Int) (0:Int) (0:Int) (0:Int) (0:Int) ([] : List api_Mark) (0:Int) (0:Int) (0:Int) (0:Int) (0:Int) ([] : List api_Mark) (0:Int) (0:Int) (0:Int) ([] : List api_Wide) (0:Int) ([] : List Int) false (0:Int) (0:Int) (0:Int) ([] : List api_Item) y26_6.1.Chains (0:Int) (0:Int) (0:Int) ([] : List api_Tuple) (0:Int) (0:Int) (0:Int) (0:Int) ([] : List api_Block)) <|
  cond (p0.Kind == (10:Int)) (
    let y28_4 := (summary_New p0.K p0.Cap);
    synopsis_New_j4 p0 y28_4.2 (0:Int) (0:Int) (0:Int) ([] : List api_Item) (0:Int) (0:Int) (0:Int) (0:Int) ([] : List api_Bucket) (0:Int) (0:Int) (0:Int) (0:Int) (0:Int) ([] : List api_Bucket) (0:Int) (0:Int) (0:Int) (0:Int) (0:Int) (0:Int) ([] : List api_Mark) (0:Int) (0:Int) (0:Int) (0:Int) (0:Int) ([] : List api_Mark) (0:Int) (0:Int) (0:Int) ([] : List api_Wide) (0:Int) ([] : List Int) false (0:Int) (0:Int) (0:Int) ([] : List api_Item) ([] : List api_Chain) y28_4.1.K y28_4.1.Cap y28_4.1.N y28_4.1.Tuples (0:Int) (0:Int) (0:Int) (0:Int) ([] : List api_Block)) <|
  cond (p0.Kind == (11:Int)) (
    let y30_7 := (quantile_New p0.W p0.K p0.Cap p1);
    synopsis_New_j4 p0 y30_7.2 (0:Int) (0:Int) (0:Int) ([] : List api_Item) (0:Int) (0:Int) (0:Int) (0:Int) ([] : List api_Bucket) (0:Int) (0:Int) (0:Int) (0:Int) (0:Int) ([] : List api_Bucket) (0:Int) (0:Int) (0:Int) (0:Int) (0:Int) (0:Int) ([] : List api_Mark) (0:Int) (0:Int) (0:Int) (0:Int) (0:Int) ([] : List api_Mark) (0:Int) (0:Int) (0:Int) ([] : List api_Wide) (0:Int) ([] : List Int) false (0:Int) (0:Int) (0:Int) ([] : List api_Item) ([] : List api_Chain) (0:Int) (0:Int) (0:Int) ([] : List api_Tuple) y30_7.1.W y30_7.1.K y30_7.1.Cap y30_7.1.Now y30_7.1.Blocks) <|
  synopsis_New_j4 p0 (0:Int) (0:Int) (0:Int) (0:Int) ([] : List api_Item) (0:Int) (0:Int) (0:Int) (0:Int) ([] : List api_Bucket) (0:Int) (0:Int) (0:Int) (0:Int) (0:Int) ([] : List api_Bucket) (0:Int) (0:Int) (0:Int) (0:Int) (0:Int) (0:Int) ([] : List api_Mark) (0:Int) (0:Int) (0:Int) (0:Int) (0:Int) ([] : List api_Mark) (0:Int) (0:Int) (0:Int) ([] : List api_Wide) (0:Int) ([] : List Int) false (0:Int) (0:Int) (0:Int) ([] : List api_Item) ([] : List api_Chain) (0:Int) (0:Int) (0:Int) ([] : List api_Tuple) (0:Int) (0:Int) (0:Int) (0:Int) ([] : List api_Block)

noncomputable def synopsis_others (p0 : api_Synopsis) : Bool :=
  cond ((p0.Config.Kind != (1:Int)) && ((((p0.Recent.W != (0:Int)) || (p0.Recent.Cap != (0:Int))) || (p0.Recent.Now != (0:Int))) || (decide ((p0.Recent.Items.length : Int) > (0:Int))))) (
    false) <|
  cond ((p0.Config.Kind != (2:Int)) && (((((p0.Count.W != (0:Int)) || (p0.Count.K != (0:Int))) || (p0.Count.Cap != (0:Int))) || (p0.Count.Now != (0:Int))) || (decide ((p0.Count.Buckets.length : Int) > (0:Int))))) (
    false) <|
  cond ((p0.Config.Kind != (3:Int)) && ((((((p0.Sum.W != (0:Int)) || (p0.Sum.K != (0:Int))) || (p0.Sum.Cap != (0:Int))) || (p0.Sum.Max != (0:Int))) || (p0.Sum.Now != (0:Int))) || (decide ((p0.Sum.Buckets.length : Int) > (0:Int))))) (
    false) <|
  cond ((p0.Config.Kind != (4:Int)) && (((((((p0.Smooth.Agg != (0:Int)) || (p0.Smooth.W != (0:Int))) || (p0.Smooth.K != (0:Int))) || (p0.Smooth.Cap != (0:Int))) || (p0.Smooth.Now != (0:Int))) || (p0.Smooth.Seq != (0:Int))) || (decide ((p0.Smooth.Marks.length : Int) > (0:Int))))) (
    false) <|
  cond ((p0.Config.Kind != (5:Int)) && ((((((p0.Spread.W != (0:Int)) || (p0.Spread.K != (0:Int))) || (p0.Spread.Cap != (0:Int))) || (p0.Spread.Now != (0:Int))) || (p0.Spread.Seq != (0:Int))) || (decide ((p0.Spread.Marks.length : Int) > (0:Int))))) (
    false) <|
  cond ((p0.Config.Kind != (6:Int)) && ((((p0.Poly.P != (0:Int)) || (p0.Poly.Land != (0:Int))) || (p0.Poly.Now != (0:Int))) || (decide ((p0.Poly.Moments.length : Int) > (0:Int))))) (
    false) <|
  cond ((p0.Config.Kind != (7:Int)) && ((p0.Halve.Now != (0:Int)) || (decide ((p0.Halve.Sums.length : Int) > (0:Int))))) (
    false) <|
  cond ((p0.Config.Kind != (8:Int)) && ((((p0.Extreme.Max || (p0.Extreme.W != (0:Int))) || (p0.Extreme.Cap != (0:Int))) || (p0.Extreme.Now != (0:Int))) || (decide ((p0.Extreme.Items.length : Int) > (0:Int))))) (
    false) <|
  cond ((p0.Config.Kind != (9:Int)) && (decide ((p0.Sample.Chains.length : Int) > (0:Int)))) (
    false) <|
  cond ((p0.Config.Kind != (10:Int)) && ((((p0.Summary.K != (0:Int)) || (p0.Summary.Cap != (0:Int))) || (p0.Summary.N != (0:Int))) || (decide ((p0.Summary.Tuples.length : Int) > (0:Int))))) (
    false) <|
  ((p0.Config.Kind == (11:Int)) || (((((p0.Quantile.W == (0:Int)) && (p0.Quantile.K == (0:Int))) && (p0.Quantile.Cap == (0:Int))) && (p0.Quantile.Now == (0:Int))) && ((p0.Quantile.Blocks.length : Int) == (0:Int))))

noncomputable def wide_Compare (p0 : api_Wide) (p1 : api_Wide) : Int :=
  cond ((decide (p0.Hi < p1.Hi)) || ((p0.Hi == p1.Hi) && (decide (p0.Lo < p1.Lo)))) (
    (-1:Int)) <|
  cond (p0.Hi == p1.Hi && (p0.Lo == p1.Lo && true)) (
    (0:Int)) <|
  (1:Int)

noncomputable def wide_Add (p0 : api_Wide) (p1 : api_Wide) : Option (api_Wide × Bool) :=
  Option.bind (math_bits_Add64 p0.Lo p1.Lo (0:Int)) fun y1_4 =>
  Option.bind (math_bits_Add64 p0.Hi p1.Hi y1_4.2) fun y2_5 =>
  cond (y2_5.2 != (0:Int)) (
    some ((api_Wide.mk (0:Int) (0:Int)), false)) <|
  some ((api_Wide.mk y2_5.1 y1_4.1), true)

noncomputable def math_bits_Mul64 (p0 : Int) (p1 : Int) : (Int × Int) :=
  ((wu64 ((wu64 ((wu64 ((ishr .u64 p0 (32:Int)) * (ishr .u64 p1 (32:Int)))) + (ishr .u64 (wu64 ((wu64 ((ishr .u64 p0 (32:Int)) * (iand .u64 p1 (4294967295:Int)))) + (ishr .u64 (wu64 ((iand .u64 p0 (4294967295:Int)) * (iand .u64 p1 (4294967295:Int)))) (32:Int)))) (32:Int)))) + (ishr .u64 (wu64 ((iand .u64 (wu64 ((wu64 ((ishr .u64 p0 (32:Int)) * (iand .u64 p1 (4294967295:Int)))) + (ishr .u64 (wu64 ((iand .u64 p0 (4294967295:Int)) * (iand .u64 p1 (4294967295:Int)))) (32:Int)))) (4294967295:Int)) + (wu64 ((iand .u64 p0 (4294967295:Int)) * (ishr .u64 p1 (32:Int)))))) (32:Int)))), (wu64 (p0 * p1)))

noncomputable def wide_Product (p0 : Int) (p1 : Int) : api_Wide :=
  let y1_2 := (math_bits_Mul64 p0 p1);
  (api_Wide.mk y1_2.1 y1_2.2)

noncomputable def wide_Mul_j2 (j2_b0x0_0 : Int) (j2_b0x0_1 : Int) (j2_b0x1_0 : Int) (j2_b0x1_1 : Int) : Option (api_Wide × Bool) :=
  let y5_4 := (wide_Product j2_b0x0_1 j2_b0x1_1);
  let y5_9 := (wide_Product j2_b0x0_1 j2_b0x1_0);
  cond (y5_9.Hi != (0:Int)) (
    some ((api_Wide.mk (0:Int) (0:Int)), false)) <|
  Option.bind (wide_Add y5_4 (api_Wide.mk y5_9.Lo (0:Int))) fun y8_4 =>
  some (y8_4.1, y8_4.2)

noncomputable def wide_Mul (p0 : api_Wide) (p1 : api_Wide) : Option (api_Wide × Bool) :=
  cond ((p0.Hi != (0:Int)) && (p1.Hi != (0:Int))) (
    some ((api_Wide.mk (0:Int) (0:Int)), false)) <|
  cond (p0.Hi != (0:Int)) (
    wide_Mul_j2 p1.Hi p1.Lo p0.Hi p0.Lo) <|
  wide_Mul_j2 p0.Hi p0.Lo p1.Hi p1.Lo

noncomputable def wide_Of (p0 : Int) : api_Wide :=
  (api_Wide.mk (0:Int) p0)

noncomputable def poly_Validate_l3s (p0 : api_Poly) (y3_7 : api_Wide) (v3_4 : Int) : Option (Int ⊕ Int) :=
  cond (decide (v3_4 ≤ p0.P)) (
    Option.bind (idx p0.Moments (w64 (v3_4 - (1:Int)))) fun x7_4 =>
    Option.bind (idx p0.Moments v3_4) fun x7_9 =>
    let y7_11 := (wide_Compare x7_4 x7_9);
    cond (decide (y7_11 > (0:Int))) (
      some (.inr (2:Int))) <|
    Option.bind (idx p0.Moments (w64 (v3_4 - (1:Int)))) fun x9_4 =>
    Option.bind (wide_Mul x9_4 y3_7) fun y9_7 =>
    Option.bind (gd y9_7.2 (idx p0.Moments v3_4)) fun x10_5 =>
    let y10_8 := (wide_Compare x10_5 y9_7.1);
    cond (y9_7.2 && (decide (y10_8 > (0:Int)))) (
      some (.inr (2:Int))) <|
    some (.inl (w64 (v3_4 + (1:Int))))) <|
  Option.map Sum.inr (some (0:Int))

noncomputable def poly_Validate_l3 (p0 : api_Poly) (y3_7 : api_Wide) (v3_4 : Int) : Option Int :=
  loop (fun (s : Int) => poly_Validate_l3s p0 y3_7 s) v3_4

noncomputable def poly_Validate (p0 : api_Poly) : Option Int :=
  let y1_11 := (poly_tick p0.Now);
  cond ((((((decide (p0.P < (0:Int))) || (decide (p0.P > (4:Int)))) || (!y1_11)) || (decide (p0.Land < (0:Int)))) || (decide (p0.Land > p0.Now))) || ((p0.Moments.length : Int) != (w64 (p0.P + (1:Int))))) (
    some (2:Int)) <|
  let y3_7 := (wide_Of (wu64 (w64 ((w64 (p0.Now - p0.Land)) + (1:Int)))));
  poly_Validate_l3 p0 y3_7 (1:Int)

noncomputable def num_Bits (p0 : Int) : Option Int :=
  cond (decide (p0 < (0:Int))) (
    some (0:Int)) <|
  Option.bind (math_bits_Len64 (wu64 p0)) fun y3_2 =>
  some y3_2

noncomputable def quantile_Size (p0 : Int) (p1 : Int) : Option Int :=
  let y1_2 := (quantile_good (1:Int) p0 p1 (0:Int));
  cond (!y1_2) (
    some (0:Int)) <|
  Option.bind (num_Bits p1) fun y3_3 =>
  some (w64 ((w64 ((2:Int) * p0)) * (w64 (y3_3 + (2:Int)))))

noncomputable def quantile_Validate_l3s (p0 : api_Quantile) (v3_40 : Int) : Option (Int ⊕ Int) :=
  cond (decide (v3_40 < (p0.Blocks.length : Int))) (
    Option.bind (idx p0.Blocks v3_40) fun x5_0 =>
    let y6_6 := (clock_Live p0.Now p0.W x5_0.T);
    cond (!y6_6) (
      some (.inr (2:Int))) <|
    some (.inl (w64 (v3_40 + (1:Int))))) <|
  Option.map Sum.inr (some (0:Int))

noncomputable def quantile_Validate_l3 (p0 : api_Quantile) (v3_40 : Int) : Option Int :=
  loop (fun (s : Int) => quantile_Validate_l3s p0 s) v3_40

noncomputable def quantile_Validate (p0 : api_Quantile) : Option Int :=
  let y1_8 := (quantile_good p0.W p0.K p0.Cap p0.Now);
  Option.bind (gd (!(!y1_8)) (quantile_Size p0.K p0.Cap)) fun y1_20 =>
  Option.bind (gd (!(!y1_8)) (blocks_Valid p0.Blocks (w64 ((2:Int) * p0.K)) y1_20)) fun y1_21 =>
  Option.bind (gd (!((!y1_8) || (!y1_21))) (blocks_Total p0.Blocks)) fun y1_27 =>
  cond (((!y1_8) || (!y1_21)) || (decide (y1_27 > p0.Cap))) (
    some (2:Int)) <|
  quantile_Validate_l3 p0 (0:Int)

noncomputable def recent_value (p0 : Int) : Bool :=
  ((decide (p0 ≥ (-4096:Int))) && (decide (p0 ≤ (4096:Int))))

noncomputable def recent_Validate_l3s (p0 : api_Recent) (v3_32 : Int) : Option (Int ⊕ Int) :=
  cond (decide (v3_32 < (p0.Items.length : Int))) (
    Option.bind (idx p0.Items v3_32) fun x5_0 =>
    let y6_6 := (clock_Live p0.Now p0.W x5_0.T);
    let y6_11 := (recent_value x5_0.V);
    cond ((!y6_6) || (!y6_11)) (
      some (.inr (2:Int))) <|
    some (.inl (w64 (v3_32 + (1:Int))))) <|
  Option.map Sum.inr (some (0:Int))

noncomputable def recent_Validate_l3 (p0 : api_Recent) (v3_32 : Int) : Option Int :=
  loop (fun (s : Int) => recent_Validate_l3s p0 s) v3_32

noncomputable def recent_Validate (p0 : api_Recent) : Option Int :=
  let y1_6 := (recent_good p0.W p0.Cap p0.Now);
  Option.bind (gd (!((!y1_6) || (decide ((p0.Items.length : Int) > p0.Cap)))) (exact_Valid p0.Items p0.Now)) fun y1_21 =>
  cond (((!y1_6) || (decide ((p0.Items.length : Int) > p0.Cap))) || (!y1_21)) (
    some (2:Int)) <|
  recent_Validate_l3 p0 (0:Int)

noncomputable def sample_Validate_l3s (p0 : api_Sample) (v3_19 : Int) : Option (Int ⊕ Int) :=
  cond (decide (v3_19 < (p0.Chains.length : Int))) (
    Option.bind (idx p0.Chains v3_19) fun x5_0 =>
    Option.bind (idx p0.Chains (0:Int)) fun x6_2 =>
    Option.bind (chain_Validate x5_0) fun y7_1 =>
    cond ((((y7_1 != (0:Int)) || (x5_0.W != x6_2.W)) || (x5_0.Cap != x6_2.Cap)) || (x5_0.I != x6_2.I)) (
      some (.inr (2:Int))) <|
    some (.inl (w64 (v3_19 + (1:Int))))) <|
  Option.map Sum.inr (some (0:Int))

noncomputable def sample_Validate_l3 (p0 : api_Sample) (v3_19 : Int) : Option Int :=
  loop (fun (s : Int) => sample_Validate_l3s p0 s) v3_19

noncomputable def sample_Validate (p0 : api_Sample) : Option Int :=
  cond ((decide ((p0.Chains.length : Int) < (1:Int))) || (decide ((p0.Chains.length : Int) > (16:Int)))) (
    some (2:Int)) <|
  sample_Validate_l3 p0 (0:Int)

noncomputable def marks_fits (p0 : Int) (p1 : Int) (p2 : Int) (p3 : Int) (p4 : Int) : Bool :=
  (((((decide (p3 ≥ (w64 (p0 * p1)))) && (decide (p3 ≤ (w64 (p0 * p2))))) && (decide (p4 ≥ (0:Int)))) && (decide (p4 ≤ (w64 ((w64 (p0 * (4096:Int))) * (4096:Int)))))) && (decide ((w64 (p3 * p3)) ≤ (w64 (p0 * p4)))))

noncomputable def marks_Valid_l3s (p0 : (List api_Mark)) (p1 : Int) (p2 : Int) (p3 : Int) (p4 : Int) (p5 : Int) (v3_25 : Int) : Option (Int ⊕ Bool) :=
  cond (decide (v3_25 < (p0.length : Int))) (
    Option.bind (idx p0 v3_25) fun x5_1 =>
    cond ((((((decide (x5_1.Seq < (1:Int))) || (decide (x5_1.Seq > p1))) || (x5_1.N != (w64 ((w64 (p1 - x5_1.Seq)) + (1:Int))))) || (decide (x5_1.N > p2))) || (decide (x5_1.T < (0:Int)))) || (decide (x5_1.T > p3))) (
      some (.inr false)) <|
    let y8_27 := (marks_fits x5_1.N x5_1.Min x5_1.Max x5_1.S x5_1.Q);
    cond ((((decide (x5_1.Min < p5)) || (decide (x5_1.Max > (4096:Int)))) || (decide (x5_1.Min > x5_1.Max))) || (!y8_27)) (
      some (.inr false)) <|
    let y10_12 := (clock_Live p3 p4 x5_1.T);
    cond (((decide (v3_25 > (0:Int))) || ((p0.length : Int) == (1:Int))) && (!y10_12)) (
      some (.inr false)) <|
    cond (v3_25 == (0:Int)) (
      some (.inl (w64 (v3_25 + (1:Int))))) <|
    Option.bind (idx p0 (w64 (v3_25 - (1:Int)))) fun x13_3 =>
    let y14_46 := (marks_fits (w64 (x13_3.N - x5_1.N)) x13_3.Min x13_3.Max (w64 (x13_3.S - x5_1.S)) (w64 (x13_3.Q - x5_1.Q)));
    cond (((((decide (x13_3.Seq ≥ x5_1.Seq)) || (decide (x13_3.T > x5_1.T))) || (decide (x13_3.Min > x5_1.Min))) || (decide (x13_3.Max < x5_1.Max))) || (!y14_46)) (
      some (.inr false)) <|
    some (.inl (w64 (v3_25 + (1:Int))))) <|
  Option.map Sum.inr (cond ((p0.length : Int) == (0:Int)) (
    some true) <|
  Option.bind (idx p0 (w64 ((p0.length : Int) - (1:Int)))) fun x19_4 =>
  some ((((x19_4.Seq == p1) && (x19_4.Min == x19_4.S)) && (x19_4.Max == x19_4.S)) && (x19_4.Q == (w64 (x19_4.S * x19_4.S)))))

noncomputable def marks_Valid_l3 (p0 : (List api_Mark)) (p1 : Int) (p2 : Int) (p3 : Int) (p4 : Int) (p5 : Int) (v3_25 : Int) : Option Bool :=
  loop (fun (s : Int) => marks_Valid_l3s p0 p1 p2 p3 p4 p5 s) v3_25

noncomputable def marks_Valid (p0 : (List api_Mark)) (p1 : Int) (p2 : Int) (p3 : Int) (p4 : Int) (p5 : Int) : Option Bool :=
  cond ((decide (p1 < (0:Int))) || (decide (p1 > (1099511627776:Int)))) (
    some false) <|
  marks_Valid_l3 p0 p1 p2 p3 p4 p5 (0:Int)

noncomputable def smooth_least (p0 : Int) : Int :=
  cond ((p0 == (2:Int)) || (p0 == (3:Int))) (
    (0:Int)) <|
  (-4096:Int)

noncomputable def num_Sub (p0 : Int) (p1 : Int) : (Int × Bool) :=
  cond ((!((decide (p0 ≥ (0:Int))) == (decide (p1 ≥ (0:Int))))) && (!((decide ((w64 (p0 - p1)) ≥ (0:Int))) == (decide (p0 ≥ (0:Int)))))) (
    ((0:Int), false)) <|
  ((w64 (p0 - p1)), true)

noncomputable def smooth_Of (p0 : api_Mark) (p1 : Int) : Int :=
  cond (p1 == (1:Int)) (
    p0.N) <|
  cond (p1 == (2:Int)) (
    p0.S) <|
  cond (p1 == (3:Int)) (
    p0.Q) <|
  cond (p1 == (4:Int)) (
    let y9_4 := (num_Sub p0.Max p0.Min);
    y9_4.1) <|
  (0:Int)

noncomputable def smooth_near (p0 : api_Mark) (p1 : api_Mark) (p2 : Int) (p3 : Int) : Bool :=
  let y1_4 := (smooth_Of p1 p2);
  let y1_9 := (smooth_Of p0 p2);
  (decide ((w64 ((w64 (p3 + (1:Int))) * y1_4)) ≥ (w64 (p3 * y1_9))))

noncomputable def smooth_Validate_l3s (p0 : api_Smooth) (v3_37 : Int) : Option (Int ⊕ Int) :=
  cond (decide (v3_37 < (p0.Marks.length : Int))) (
    Option.bind (idx p0.Marks v3_37) fun x5_1 =>
    Option.bind (gd (decide (v3_37 ≥ (2:Int))) (idx p0.Marks (w64 (v3_37 - (2:Int))))) fun x6_7 =>
    let y6_14 := (smooth_near x6_7 x5_1 p0.Agg p0.K);
    cond ((decide (v3_37 ≥ (2:Int))) && y6_14) (
      some (.inr (2:Int))) <|
    Option.bind (gd (decide (v3_37 ≥ (1:Int))) (idx p0.Marks (w64 (v3_37 - (1:Int))))) fun x8_9 =>
    Option.bind (gd ((decide (v3_37 ≥ (1:Int))) && (decide ((w64 (x5_1.Seq - x8_9.Seq)) > (1:Int)))) (idx p0.Marks (w64 (v3_37 - (1:Int))))) fun x8_20 =>
    let y8_27 := (smooth_near x8_20 x5_1 p0.Agg p0.K);
    cond (((decide (v3_37 ≥ (1:Int))) && (decide ((w64 (x5_1.Seq - x8_9.Seq)) > (1:Int)))) && (!y8_27)) (
      some (.inr (2:Int))) <|
    some (.inl (w64 (v3_37 + (1:Int))))) <|
  Option.map Sum.inr (some (0:Int))

noncomputable def smooth_Validate_l3 (p0 : api_Smooth) (v3_37 : Int) : Option Int :=
  loop (fun (s : Int) => smooth_Validate_l3s p0 s) v3_37

noncomputable def smooth_Validate (p0 : api_Smooth) : Option Int :=
  let y1_10 := (smooth_good p0.Agg p0.W p0.K p0.Cap p0.Now);
  let y1_25 := (smooth_least p0.Agg);
  Option.bind (gd (!(!y1_10)) (marks_Valid p0.Marks p0.Seq p0.Cap p0.Now p0.W y1_25)) fun y1_26 =>
  cond ((!y1_10) || (!y1_26)) (
    some (2:Int)) <|
  smooth_Validate_l3 p0 (0:Int)

noncomputable def spread_right (p0 : api_Mark) : Bool :=
  cond ((((((decide (p0.N < (1:Int))) || (decide (p0.N > (65536:Int)))) || (decide (p0.S < (w64 ((IntKind.i64.wrap (0 - p0.N)) * (4096:Int)))))) || (decide (p0.S > (w64 (p0.N * (4096:Int)))))) || (decide (p0.Q < (0:Int)))) || (decide (p0.Q > (w64 ((w64 (p0.N * (4096:Int))) * (4096:Int)))))) (
    false) <|
  (decide ((w64 (p0.S * p0.S)) ≤ (w64 (p0.N * p0.Q))))

noncomputable def spread_top (p0 : api_Mark) : Int :=
  (w64 ((w64 (p0.N * p0.Q)) - (w64 (p0.S * p0.S))))

noncomputable def spread_Close (p0 : api_Mark) (p1 : api_Mark) (p2 : Int) : Option Bool :=
  let y1_1 := (spread_right p0);
  let y1_5 := (spread_right p1);
  cond ((((!y1_1) || (!y1_5)) || (decide (p2 < (1:Int)))) || (decide (p2 > (64:Int)))) (
    some false) <|
  cond (decide ((w64 ((w64 ((6:Int) * p2)) * p1.N)) < (w64 ((w64 ((w64 ((6:Int) * p2)) - (1:Int))) * p0.N)))) (
    some false) <|
  let y6_1 := (spread_top p1);
  let y6_6 := (wide_Product (wu64 y6_1) (wu64 p0.N));
  let y6_9 := (wide_Of (wu64 (w64 ((6:Int) * p2))));
  Option.bind (wide_Mul y6_6 y6_9) fun y6_10 =>
  let y7_1 := (spread_top p0);
  let y7_6 := (wide_Product (wu64 y7_1) (wu64 p1.N));
  let y7_9 := (wide_Of (wu64 (w64 ((w64 ((6:Int) * p2)) - (1:Int)))));
  Option.bind (wide_Mul y7_6 y7_9) fun y7_10 =>
  let y8_2 := (wide_Compare y6_10.1 y7_10.1);
  some (decide (y8_2 ≥ (0:Int)))

noncomputable def spread_Validate_l3s (p0 : api_Spread) (v3_3 : Int) : Option (Int ⊕ Int) :=
  cond (decide (v3_3 < (p0.Marks.length : Int))) (
    Option.bind (idx p0.Marks (w64 (v3_3 - (2:Int)))) fun x6_4 =>
    Option.bind (idx p0.Marks v3_3) fun x6_9 =>
    Option.bind (spread_Close x6_4 x6_9 p0.K) fun y6_13 =>
    cond y6_13 (
      some (.inr (2:Int))) <|
    some (.inl (w64 (v3_3 + (1:Int))))) <|
  Option.map Sum.inr (some (0:Int))

noncomputable def spread_Validate_l3 (p0 : api_Spread) (v3_3 : Int) : Option Int :=
  loop (fun (s : Int) => spread_Validate_l3s p0 s) v3_3

noncomputable def spread_Validate (p0 : api_Spread) : Option Int :=
  let y1_8 := (marks_Good p0.W p0.K p0.Cap p0.Now);
  Option.bind (gd (!(!y1_8)) (marks_Valid p0.Marks p0.Seq p0.Cap p0.Now p0.W (-4096:Int))) fun y1_21 =>
  cond ((!y1_8) || (!y1_21)) (
    some (2:Int)) <|
  spread_Validate_l3 p0 (2:Int)

noncomputable def sum_Validate_l3s (p0 : api_Sum) (v3_36 : Int) : Option (Int ⊕ Int) :=
  cond (decide (v3_36 < (p0.Buckets.length : Int))) (
    Option.bind (idx p0.Buckets v3_36) fun x5_0 =>
    let y6_6 := (clock_Live p0.Now p0.W x5_0.T);
    cond (!y6_6) (
      some (.inr (2:Int))) <|
    some (.inl (w64 (v3_36 + (1:Int))))) <|
  Option.map Sum.inr (some (0:Int))

noncomputable def sum_Validate_l3 (p0 : api_Sum) (v3_36 : Int) : Option Int :=
  loop (fun (s : Int) => sum_Validate_l3s p0 s) v3_36

noncomputable def sum_Validate (p0 : api_Sum) : Option Int :=
  let y1_10 := (sum_good p0.W p0.K p0.Cap p0.Max p0.Now);
  Option.bind (gd (!(!y1_10)) (buckets_Valid p0.Buckets p0.K)) fun y1_17 =>
  Option.bind (gd (!((!y1_10) || (!y1_17))) (buckets_Total p0.Buckets)) fun y1_23 =>
  cond (((!y1_10) || (!y1_17)) || (decide (y1_23 > p0.Cap))) (
    some (2:Int)) <|
  sum_Validate_l3 p0 (0:Int)

noncomputable def summary_most (p0 : Int) (p1 : Int) : Option Int :=
  ck (decide (p1 ≠ 0)) <|
  some (imax (1:Int) (w64 (Int.tdiv p0 p1)))

noncomputable def summary_Validate_l6s (p0 : api_Summary) (y9_4 : Int) (v6_4 : Int) (v6_64 : Int) : Option ((Int × Int) ⊕ Int) :=
  cond (decide (v6_64 < (p0.Tuples.length : Int))) (
    Option.bind (idx p0.Tuples v6_64) fun x12_1 =>
    Option.bind (gd ((!((decide (x12_1.V < (-4096:Int))) || (decide (x12_1.V > (4096:Int))))) && (decide (v6_64 > (0:Int)))) (idx p0.Tuples (w64 (v6_64 - (1:Int))))) fun x13_16 =>
    cond (((decide (x12_1.V < (-4096:Int))) || (decide (x12_1.V > (4096:Int)))) || ((decide (v6_64 > (0:Int))) && (decide (x13_16.V > x12_1.V)))) (
      some (.inr (2:Int))) <|
    cond ((((decide (x12_1.G < (1:Int))) || (decide (x12_1.D < (0:Int)))) || (decide (x12_1.G > y9_4))) || (decide (x12_1.D > (w64 (y9_4 - x12_1.G))))) (
      some (.inr (2:Int))) <|
    some (.inl ((w64 (v6_4 + x12_1.G)), (w64 (v6_64 + (1:Int)))))) <|
  Option.map Sum.inr (Option.bind (idx p0.Tuples (0:Int)) fun x19_2 =>
  Option.bind (idx p0.Tuples (w64 ((p0.Tuples.length : Int) - (1:Int)))) fun x19_10 =>
  cond ((((v6_4 != p0.N) || (x19_2.G != (1:Int))) || (x19_2.D != (0:Int))) || (x19_10.D != (0:Int))) (
    some (2:Int)) <|
  some (0:Int))

noncomputable def summary_Validate_l6 (p0 : api_Summary) (y9_4 : Int) (v6_4 : Int) (v6_64 : Int) : Option Int :=
  loop (fun (s : (Int × Int)) => summary_Validate_l6s p0 y9_4 s.1 s.2) (v6_4, v6_64)

noncomputable def summary_Validate (p0 : api_Summary) : Option Int :=
  cond (((((((decide (p0.K < (1:Int))) || (decide (p0.K > (64:Int)))) || (decide (p0.Cap < (2:Int)))) || (decide (p0.Cap > (65536:Int)))) || (decide (p0.N < (0:Int)))) || (decide (p0.N > (1099511627776:Int)))) || (decide ((p0.Tuples.length : Int) > p0.Cap))) (
    some (2:Int)) <|
  cond (p0.N == (0:Int)) (
    cond (decide ((p0.Tuples.length : Int) > (0:Int))) (
      some (2:Int)) <|
    some (0:Int)) <|
  cond ((p0.Tuples.length : Int) == (0:Int)) (
    some (2:Int)) <|
  Option.bind (summary_most p0.N p0.K) fun y9_4 =>
  summary_Validate_l6 p0 y9_4 (0:Int) (0:Int)

noncomputable def synopsis_right (p0 : api_Synopsis) : Option Bool :=
  cond (p0.Config.Kind == (1:Int)) (
    Option.bind (recent_Validate p0.Recent) fun y5_1 =>
    some (((y5_1 == (0:Int)) && (p0.Recent.W == p0.Config.W)) && (p0.Recent.Cap == p0.Config.Cap))) <|
  cond (p0.Config.Kind == (2:Int)) (
    Option.bind (count_Validate p0.Count) fun y8_1 =>
    some ((((y8_1 == (0:Int)) && (p0.Count.W == p0.Config.W)) && (p0.Count.K == p0.Config.K)) && (p0.Count.Cap == p0.Config.Cap))) <|
  cond (p0.Config.Kind == (3:Int)) (
    Option.bind (sum_Validate p0.Sum) fun y11_1 =>
    some (((((y11_1 == (0:Int)) && (p0.Sum.W == p0.Config.W)) && (p0.Sum.K == p0.Config.K)) && (p0.Sum.Cap == p0.Config.Cap)) && (p0.Sum.Max == p0.Config.Max))) <|
  cond (p0.Config.Kind == (4:Int)) (
    Option.bind (smooth_Validate p0.Smooth) fun y14_1 =>
    some (((((y14_1 == (0:Int)) && (p0.Smooth.W == p0.Config.W)) && (p0.Smooth.K == p0.Config.K)) && (p0.Smooth.Cap == p0.Config.Cap)) && (p0.Smooth.Agg == p0.Config.Agg))) <|
  cond (p0.Config.Kind == (5:Int)) (
    Option.bind (spread_Validate p0.Spread) fun y17_1 =>
    some ((((y17_1 == (0:Int)) && (p0.Spread.W == p0.Config.W)) && (p0.Spread.K == p0.Config.K)) && (p0.Spread.Cap == p0.Config.Cap))) <|
  cond (p0.Config.Kind == (6:Int)) (
    Option.bind (poly_Validate p0.Poly) fun y19_2 =>
    some ((y19_2 == (0:Int)) && (p0.Poly.P == p0.Config.P))) <|
  cond (p0.Config.Kind == (7:Int)) (
    Option.bind (halve_Validate p0.Halve) fun y21_2 =>
    some ((y21_2 == (0:Int)) && ((p0.Halve.Sums.length : Int) == p0.Config.W))) <|
  cond (p0.Config.Kind == (8:Int)) (
    Option.bind (extreme_Validate p0.Extreme) fun y24_1 =>
    some ((((y24_1 == (0:Int)) && (p0.Extreme.W == p0.Config.W)) && (p0.Extreme.Cap == p0.Config.Cap)) && (p0.Extreme.Max == (p0.Config.Max == (1:Int))))) <|
  cond (p0.Config.Kind == (9:Int)) (
    Option.bind (sample_Validate p0.Sample) fun y27_1 =>
    Option.bind (gd ((y27_1 == (0:Int)) && ((p0.Sample.Chains.length : Int) == p0.Config.Chains)) (idx p0.Sample.Chains (0:Int))) fun x27_14 =>
    Option.bind (gd (((y27_1 == (0:Int)) && ((p0.Sample.Chains.length : Int) == p0.Config.Chains)) && (x27_14.W == p0.Config.W)) (idx p0.Sample.Chains (0:Int))) fun x27_24 =>
    some ((((y27_1 == (0:Int)) && ((p0.Sample.Chains.length : Int) == p0.Config.Chains)) && (x27_14.W == p0.Config.W)) && (x27_24.Cap == p0.Config.Cap))) <|
  cond (p0.Config.Kind == (10:Int)) (
    Option.bind (summary_Validate p0.Summary) fun y30_1 =>
    some (((y30_1 == (0:Int)) && (p0.Summary.K == p0.Config.K)) && (p0.Summary.Cap == p0.Config.Cap))) <|
  Option.bind (quantile_Validate p0.Quantile) fun y32_1 =>
  some ((((y32_1 == (0:Int)) && (p0.Quantile.W == p0.Config.W)) && (p0.Quantile.K == p0.Config.K)) && (p0.Quantile.Cap == p0.Config.Cap))

noncomputable def synopsis_Validate (p0 : api_Synopsis) : Option Int :=
  let y1_2 := (config_Validate p0.Config);
  Option.bind (gd (!(y1_2 != (0:Int))) (synopsis_right p0)) fun y1_6 =>
  let y1_11 := (synopsis_others p0);
  cond (((y1_2 != (0:Int)) || (!y1_6)) || (!y1_11)) (
    some (2:Int)) <|
  some (0:Int)

noncomputable def synopsis_Records_l7s (p0 : api_Synopsis) (v7_3 : Int) (v7_73 : Int) : Option ((Int × Int) ⊕ Int) :=
  cond (decide (v7_73 < (p0.Quantile.Blocks.length : Int))) (
    Option.bind (idx p0.Quantile.Blocks v7_73) fun x11_0 =>
    some (.inl ((w64 (v7_3 + (x11_0.Ranks.Entries.length : Int))), (w64 (v7_73 + (1:Int)))))) <|
  Option.map Sum.inr (some v7_3)

noncomputable def synopsis_Records_l7 (p0 : api_Synopsis) (v7_3 : Int) (v7_73 : Int) : Option Int :=
  loop (fun (s : (Int × Int)) => synopsis_Records_l7s p0 s.1 s.2) (v7_3, v7_73)

noncomputable def synopsis_Records_l3s (p0 : api_Synopsis) (v3_3 : Int) (v3_59 : Int) : Option ((Int × Int) ⊕ Int) :=
  cond (decide (v3_59 < (p0.Sample.Chains.length : Int))) (
    Option.bind (idx p0.Sample.Chains v3_59) fun x6_0 =>
    some (.inl ((w64 (v3_3 + (x6_0.Links.length : Int))), (w64 (v3_59 + (1:Int)))))) <|
  Option.map Sum.inr (synopsis_Records_l7 p0 v3_3 (0:Int))

noncomputable def synopsis_Records_l3 (p0 : api_Synopsis) (v3_3 : Int) (v3_59 : Int) : Option Int :=
  loop (fun (s : (Int × Int)) => synopsis_Records_l3s p0 s.1 s.2) (v3_3, v3_59)

noncomputable def synopsis_Records (p0 : api_Synopsis) : Option Int :=
  Option.bind (synopsis_Validate p0) fun y1_1 =>
  cond (y1_1 != (0:Int)) (
    some (0:Int)) <|
  synopsis_Records_l3 p0 (w64 ((w64 ((w64 ((w64 ((w64 ((w64 ((w64 ((w64 ((p0.Recent.Items.length : Int) + (p0.Count.Buckets.length : Int))) + (p0.Sum.Buckets.length : Int))) + (p0.Smooth.Marks.length : Int))) + (p0.Spread.Marks.length : Int))) + (p0.Poly.Moments.length : Int))) + (p0.Halve.Sums.length : Int))) + (p0.Extreme.Items.length : Int))) + (p0.Summary.Tuples.length : Int))) (0:Int)

noncomputable def law25_awake : Option Bool :=
  Option.bind (synopsis_New (api_Config.mk (6:Int) (0:Int) (0:Int) (0:Int) (0:Int) (2:Int) (0:Int) (0:Int)) (0:Int)) fun y1_1 =>
  Option.bind (gd (y1_1.2 == (0:Int)) (synopsis_Records y1_1.1)) fun y2_4 =>
  some ((y1_1.2 == (0:Int)) && (y2_4 == (3:Int)))

noncomputable def ref06_Tick (p0 : Int) : Bool :=
  ((decide (p0 ≥ (0:Int))) && (decide (p0 ≤ (16777216:Int))))

noncomputable def ref06_Window (p0 : Int) : Bool :=
  ((decide (p0 ≥ (1:Int))) && (decide (p0 ≤ (1048576:Int))))

noncomputable def ref09_May (p0 : Int) (p1 : Int) (p2 : Int) : Bool :=
  let y1_1 := (ref06_Window p0);
  let y1_12 := (ref06_Tick p2);
  (((y1_1 && (decide (p1 ≥ (1:Int)))) && (decide (p1 ≤ (65536:Int)))) && y1_12)

noncomputable def ref09_New (p0 : Int) (p1 : Int) (p2 : Int) : (api_Recent × Int) :=
  let y1_3 := (ref09_May p0 p1 p2);
  cond (!y1_3) (
    ((api_Recent.mk (0:Int) (0:Int) (0:Int) ([] : List api_Item)), (1:Int))) <|
  ((api_Recent.mk p0 p1 p2 ([] : List api_Item)), (0:Int))

noncomputable def ref11_MayK (p0 : Int) : Bool :=
  ((decide (p0 ≥ (1:Int))) && (decide (p0 ≤ (64:Int))))

noncomputable def ref11_New (p0 : Int) (p1 : Int) (p2 : Int) (p3 : Int) : (api_Count × Int) :=
  let y1_3 := (ref09_May p0 p2 p3);
  let y1_7 := (ref11_MayK p1);
  cond ((!y1_3) || (!y1_7)) (
    ((api_Count.mk (0:Int) (0:Int) (0:Int) (0:Int) ([] : List api_Bucket)), (1:Int))) <|
  ((api_Count.mk p0 p1 p2 p3 ([] : List api_Bucket)), (0:Int))

noncomputable def ref12_MayMax (p0 : Int) : Bool :=
  ((decide (p0 ≥ (1:Int))) && (decide (p0 ≤ (1024:Int))))

noncomputable def ref12_New (p0 : Int) (p1 : Int) (p2 : Int) (p3 : Int) (p4 : Int) : (api_Sum × Int) :=
  let y1_3 := (ref09_May p0 p2 p4);
  let y1_7 := (ref11_MayK p1);
  let y1_12 := (ref12_MayMax p3);
  cond (((!y1_3) || (!y1_7)) || (!y1_12)) (
    ((api_Sum.mk (0:Int) (0:Int) (0:Int) (0:Int) (0:Int) ([] : List api_Bucket)), (1:Int))) <|
  ((api_Sum.mk p0 p1 p2 p3 p4 ([] : List api_Bucket)), (0:Int))

noncomputable def ref13_MayAgg (p0 : Int) : Bool :=
  ((decide (p0 ≥ (1:Int))) && (decide (p0 ≤ (4:Int))))

noncomputable def ref13_New (p0 : Int) (p1 : Int) (p2 : Int) (p3 : Int) (p4 : Int) : (api_Smooth × Int) :=
  let y1_1 := (ref13_MayAgg p0);
  let y1_7 := (ref09_May p1 p3 p4);
  let y1_12 := (ref11_MayK p2);
  cond (((!y1_1) || (!y1_7)) || (!y1_12)) (
    ((api_Smooth.mk (0:Int) (0:Int) (0:Int) (0:Int) (0:Int) (0:Int) ([] : List api_Mark)), (1:Int))) <|
  ((api_Smooth.mk p0 p1 p2 p3 p4 (0:Int) ([] : List api_Mark)), (0:Int))

noncomputable def ref14_New (p0 : Int) (p1 : Int) (p2 : Int) (p3 : Int) : (api_Spread × Int) :=
  let y1_3 := (ref09_May p0 p2 p3);
  let y1_7 := (ref11_MayK p1);
  cond ((!y1_3) || (!y1_7)) (
    ((api_Spread.mk (0:Int) (0:Int) (0:Int) (0:Int) (0:Int) ([] : List api_Mark)), (1:Int))) <|
  ((api_Spread.mk p0 p1 p2 p3 (0:Int) ([] : List api_Mark)), (0:Int))

noncomputable def ref15_New (p0 : Int) (p1 : Int) : Option (api_Poly × Int) :=
  let y1_8 := (ref06_Tick p1);
  cond (((decide (p0 < (0:Int))) || (decide (p0 > (4:Int)))) || (!y1_8)) (
    some ((api_Poly.mk (0:Int) (0:Int) (0:Int) ([] : List api_Wide)), (1:Int))) <|
  ck (decide (0 ≤ (w64 (p0 + (1:Int))) ∧ (w64 (p0 + (1:Int))) ≤ (w64 (p0 + (1:Int))) ∧ (w64 (p0 + (1:Int))) * 16 ≤ 140737488355328 ∧ (w64 (p0 + (1:Int))) ≤ 140737488355328)) <|
  some ((api_Poly.mk p0 p1 p1 (List.replicate ((w64 (p0 + (1:Int)))).toNat (api_Wide.mk (0:Int) (0:Int)))), (0:Int))

noncomputable def ref16_New (p0 : Int) (p1 : Int) : Option (api_Halve × Int) :=
  let y1_8 := (ref06_Tick p1);
  cond (((decide (p0 < (1:Int))) || (decide (p0 > (64:Int)))) || (!y1_8)) (
    some ((api_Halve.mk (0:Int) ([] : List Int)), (1:Int))) <|
  ck (decide (0 ≤ p0 ∧ p0 ≤ p0 ∧ p0 * 8 ≤ 140737488355328 ∧ p0 ≤ 140737488355328)) <|
  some ((api_Halve.mk p1 (List.replicate (p0).toNat (0:Int))), (0:Int))

noncomputable def ref17_New (p0 : Bool) (p1 : Int) (p2 : Int) (p3 : Int) : (api_Extreme × Int) :=
  let y1_3 := (ref09_May p1 p2 p3);
  cond (!y1_3) (
    ((api_Extreme.mk false (0:Int) (0:Int) (0:Int) ([] : List api_Item)), (1:Int))) <|
  ((api_Extreme.mk p0 p1 p2 p3 ([] : List api_Item)), (0:Int))

noncomputable def ref18_New (p0 : Int) (p1 : Int) : (api_Chain × Int) :=
  let y1_1 := (ref06_Window p0);
  cond (((!y1_1) || (decide (p1 < (1:Int)))) || (decide (p1 > (64:Int)))) (
    ((api_Chain.mk (0:Int) (0:Int) (0:Int) (0:Int) ([] : List api_Link)), (1:Int))) <|
  ((api_Chain.mk p0 p1 (0:Int) (0:Int) ([] : List api_Link)), (0:Int))

noncomputable def ref19_New_l3s (p1 : Int) (p2 : Int) (v3_0 : Int) (v3_b3x0_0 : (List api_Chain)) : Option ((Int × (List api_Chain)) ⊕ (api_Sample × Int)) :=
  cond (decide (v3_0 > (0:Int))) (
    let y6_2 := (ref18_New p1 p2);
    cond (y6_2.2 != (0:Int)) (
      some (.inr ((api_Sample.mk ([] : List api_Chain)), y6_2.2))) <|
    ck (decide ((v3_b3x0_0.length + [y6_2.1].length) * 56 ≤ 140737488355328)) <|
    some (.inl ((w64 (v3_0 - (1:Int))), (v3_b3x0_0 ++ [y6_2.1])))) <|
  Option.map Sum.inr (some ((api_Sample.mk v3_b3x0_0), (0:Int)))

noncomputable def ref19_New_l3 (p1 : Int) (p2 : Int) (v3_0 : Int) (v3_b3x0_0 : (List api_Chain)) : Option (api_Sample × Int) :=
  loop (fun (s : (Int × (List api_Chain))) => ref19_New_l3s p1 p2 s.1 s.2) (v3_0, v3_b3x0_0)

noncomputable def ref19_New (p0 : Int) (p1 : Int) (p2 : Int) : Option (api_Sample × Int) :=
  cond ((decide (p0 < (1:Int))) || (decide (p0 > (16:Int)))) (
    some ((api_Sample.mk ([] : List api_Chain)), (1:Int))) <|
  ref19_New_l3 p1 p2 p0 ([] : List api_Chain)

noncomputable def ref20_New (p0 : Int) (p1 : Int) : (api_Summary × Int) :=
  let y1_1 := (ref11_MayK p0);
  cond (((!y1_1) || (decide (p1 < (2:Int)))) || (decide (p1 > (65536:Int)))) (
    ((api_Summary.mk (0:Int) (0:Int) (0:Int) ([] : List api_Tuple)), (1:Int))) <|
  ((api_Summary.mk p0 p1 (0:Int) ([] : List api_Tuple)), (0:Int))

noncomputable def ref23_New (p0 : Int) (p1 : Int) (p2 : Int) (p3 : Int) : (api_Quantile × Int) :=
  let y1_3 := (ref09_May p0 p2 p3);
  let y1_7 := (ref11_MayK p1);
  cond ((!y1_3) || (!y1_7)) (
    ((api_Quantile.mk (0:Int) (0:Int) (0:Int) (0:Int) ([] : List api_Block)), (1:Int))) <|
  ((api_Quantile.mk p0 p1 p2 p3 ([] : List api_Block)), (0:Int))

noncomputable def ref24_Plain_j2 (p0 : api_Config) (j2_b1x3_1 : Int) (j2_b1x3_2 : Int) (j2_b1x3_3 : Int) (j2_b1x3_4 : Int) (j2_b1x3_5 : Int) (j2_b1x3_6 : Int) (j2_b1x3_7 : Int) : api_Config :=
  (api_Config.mk p0.Kind j2_b1x3_1 j2_b1x3_2 j2_b1x3_3 j2_b1x3_4 j2_b1x3_5 j2_b1x3_6 j2_b1x3_7)

noncomputable def ref24_Plain_j3 (p0 : api_Config) (j3_17 : Bool) : api_Config :=
  cond j3_17 (
    ref24_Plain_j2 p0 (0:Int) p0.W p0.K p0.Cap (0:Int) (0:Int) (0:Int)) <|
  cond (p0.Kind == (3:Int)) (
    ref24_Plain_j2 p0 (0:Int) p0.W p0.K p0.Cap (0:Int) (0:Int) p0.Max) <|
  cond (p0.Kind == (4:Int)) (
    ref24_Plain_j2 p0 p0.Agg p0.W p0.K p0.Cap (0:Int) (0:Int) (0:Int)) <|
  cond (p0.Kind == (6:Int)) (
    ref24_Plain_j2 p0 (0:Int) (0:Int) (0:Int) (0:Int) p0.P (0:Int) (0:Int)) <|
  cond (p0.Kind == (7:Int)) (
    ref24_Plain_j2 p0 (0:Int) p0.W (0:Int) (0:Int) (0:Int) (0:Int) (0:Int)) <|
  cond (p0.Kind == (8:Int)) (
    ref24_Plain_j2 p0 (0:Int) p0.W (0:Int) p0.Cap (0:Int) (0:Int) p0.Max) <|
  cond (p0.Kind == (9:Int)) (
    ref24_Plain_j2 p0 (0:Int) p0.W (0:Int) p0.Cap (0:Int) p0.Chains (0:Int)) <|
  cond (p0.Kind == (10:Int)) (
    ref24_Plain_j2 p0 (0:Int) (0:Int) p0.K p0.Cap (0:Int) (0:Int) (0:Int)) <|
  ref24_Plain_j2 p0 (0:Int) (0:Int) (0:Int) (0:Int) (0:Int) (0:Int) (0:Int)

noncomputable def ref24_Plain (p0 : api_Config) : api_Config :=
  cond (p0.Kind == (1:Int)) (
    ref24_Plain_j2 p0 (0:Int) p0.W (0:Int) p0.Cap (0:Int) (0:Int) (0:Int)) <|
  cond (p0.Kind == (2:Int)) (
    ref24_Plain_j3 p0 (p0.Kind == (2:Int))) <|
  cond (p0.Kind == (5:Int)) (
    ref24_Plain_j3 p0 (p0.Kind == (5:Int))) <|
  ref24_Plain_j3 p0 (p0.Kind == (11:Int))

noncomputable def ref24_ranges_j3 (p0 : api_Config) (y1_4 : Bool) (j3_14 : Bool) : Bool :=
  cond j3_14 (
    let y8_4 := (ref11_MayK p0.K);
    (y1_4 && y8_4)) <|
  cond (p0.Kind == (3:Int)) (
    let y10_4 := (ref11_MayK p0.K);
    (((y1_4 && y10_4) && (decide (p0.Max ≥ (1:Int)))) && (decide (p0.Max ≤ (1024:Int))))) <|
  cond (p0.Kind == (4:Int)) (
    let y12_4 := (ref11_MayK p0.K);
    let y12_9 := (ref13_MayAgg p0.Agg);
    ((y1_4 && y12_4) && y12_9)) <|
  cond (p0.Kind == (6:Int)) (
    ((decide (p0.P ≥ (0:Int))) && (decide (p0.P ≤ (4:Int))))) <|
  cond (p0.Kind == (7:Int)) (
    ((decide (p0.W ≥ (1:Int))) && (decide (p0.W ≤ (64:Int))))) <|
  cond (p0.Kind == (8:Int)) (
    (y1_4 && ((p0.Max == (0:Int)) || (p0.Max == (1:Int))))) <|
  cond (p0.Kind == (9:Int)) (
    ((((((decide (p0.Chains ≥ (1:Int))) && (decide (p0.Chains ≤ (16:Int)))) && (decide (p0.W ≥ (1:Int)))) && (decide (p0.W ≤ (1048576:Int)))) && (decide (p0.Cap ≥ (1:Int)))) && (decide (p0.Cap ≤ (64:Int))))) <|
  cond (p0.Kind == (10:Int)) (
    let y22_2 := (ref11_MayK p0.K);
    ((y22_2 && (decide (p0.Cap ≥ (2:Int)))) && (decide (p0.Cap ≤ (65536:Int))))) <|
  false

noncomputable def ref24_ranges (p0 : api_Config) : Bool :=
  let y1_4 := (ref09_May p0.W p0.Cap (0:Int));
  cond (p0.Kind == (1:Int)) (
    y1_4) <|
  cond (p0.Kind == (2:Int)) (
    ref24_ranges_j3 p0 y1_4 (p0.Kind == (2:Int))) <|
  cond (p0.Kind == (5:Int)) (
    ref24_ranges_j3 p0 y1_4 (p0.Kind == (5:Int))) <|
  ref24_ranges_j3 p0 y1_4 (p0.Kind == (11:Int))

noncomputable def ref24_Validate (p0 : api_Config) : Int :=
  let y1_2 := (ref24_Plain p0);
  let y1_6 := (ref24_ranges p0);
  cond ((!(p0.Kind == y1_2.Kind && (p0.Agg == y1_2.Agg && (p0.W == y1_2.W && (p0.K == y1_2.K && (p0.Cap == y1_2.Cap && (p0.P == y1_2.P && (p0.Chains == y1_2.Chains && (p0.Max == y1_2.Max && true))))))))) || (!y1_6)) (
    (1:Int)) <|
  (0:Int)

noncomputable def ref25_New_j4 (p0 : api_Config) (j4_b6x2_8 : Int) (j4_b6x2_9 : Int) (j4_b6x2_10 : Int) (j4_b6x2_11 : (List api_Item)) (j4_b6x2_12 : Int) (j4_b6x2_13 : Int) (j4_b6x2_14 : Int) (j4_b6x2_15 : Int) (j4_b6x2_16 : (List api_Bucket)) (j4_b6x2_17 : Int) (j4_b6x2_18 : Int) (j4_b6x2_19 : Int) (j4_b6x2_20 : Int) (j4_b6x2_21 : Int) (j4_b6x2_22 : (List api_Bucket)) (j4_b6x2_23 : Int) (j4_b6x2_24 : Int) (j4_b6x2_25 : Int) (j4_b6x2_26 : Int) (j4_b6x2_27 : Int) (j4_b6x2_28 : Int) (j4_b6x2_29 : (List api_Mark)) (j4_b6x2_30 : Int) (j4_b6x2_31 : Int) (j4_b6x2_32 : Int) (j4_b6x2_33 : Int) (j4_b6x2_34 : Int) (j4_b6x2_35 : (List api_Mark)) (j4_b6x2_36 : Int) (j4_b6x2_37 : Int) (j4_b6x2_38 : Int) (j4_b6x2_39 : (List api_Wide)) (j4_b6x2_40 : Int) (j4_b6x2_41 : (List Int)) (j4_b6x2_42 : Bool) (j4_b6x2_43 : Int) (j4_b6x2_44 : Int) (j4_b6x2_45 : Int) (j4_b6x2_46 : (List api_Item)) (j4_b6x2_47 : (List api_Chain)) (j4_b6x2_48 : Int) (j4_b6x2_49 : Int) (j4_b6x2_50 : Int) (j4_b6x2_51 : (List api_Tuple)) (j4_b6x2_52 : Int) (j4_b6x2_53 : Int) (j4_b6x2_54 : Int) (j4_b6x2_55 : Int) (j4_b6x2_56 : (List api_Block)) : Option (api_Synopsis × Int) :=
  some ((api_Synopsis.mk p0 (api_Recent.mk j4_b6x2_8 j4_b6x2_9 j4_b6x2_10 j4_b6x2_11) (api_Count.mk j4_b6x2_12 j4_b6x2_13 j4_b6x2_14 j4_b6x2_15 j4_b6x2_16) (api_Sum.mk j4_b6x2_17 j4_b6x2_18 j4_b6x2_19 j4_b6x2_20 j4_b6x2_21 j4_b6x2_22) (api_Smooth.mk j4_b6x2_23 j4_b6x2_24 j4_b6x2_25 j4_b6x2_26 j4_b6x2_27 j4_b6x2_28 j4_b6x2_29) (api_Spread.mk j4_b6x2_30 j4_b6x2_31 j4_b6x2_32 j4_b6x2_33 j4_b6x2_34 j4_b6x2_35) (api_Poly.mk j4_b6x2_36 j4_b6x2_37 j4_b6x2_38 j4_b6x2_39) (api_Halve.mk j4_b6x2_40 j4_b6x2_41) (api_Extreme.mk j4_b6x2_42 j4_b6x2_43 j4_b6x2_44 j4_b6x2_45 j4_b6x2_46) (api_Sample.mk j4_b6x2_47) (api_Summary.mk j4_b6x2_48 j4_b6x2_49 j4_b6x2_50 j4_b6x2_51) (api_Quantile.mk j4_b6x2_52 j4_b6x2_53 j4_b6x2_54 j4_b6x2_55 j4_b6x2_56)), (0:Int))

noncomputable def ref25_New (p0 : api_Config) (p1 : Int) : Option (api_Synopsis × Int) :=
  let y1_1 := (ref24_Validate p0);
  cond (y1_1 != (0:Int)) (
    some ((api_Synopsis.mk (api_Config.mk (0:Int) (0:Int) (0:Int) (0:Int) (0:Int) (0:Int) (0:Int) (0:Int)) (api_Recent.mk (0:Int) (0:Int) (0:Int) ([] : List api_Item)) (api_Count.mk (0:Int) (0:Int) (0:Int) (0:Int) ([] : List api_Bucket)) (api_Sum.mk (0:Int) (0:Int) (0:Int) (0:Int) (0:Int) ([] : List api_Bucket)) (api_Smooth.mk (0:Int) (0:Int) (0:Int) (0:Int) (0:Int) (0:Int) ([] : List api_Mark)) (api_Spread.mk (0:Int) (0:Int) (0:Int) (0:Int) (0:Int) ([] : List api_Mark)) (api_Poly.mk (0:Int) (0:Int) (0:Int) ([] : List api_Wide)) (api_Halve.mk (0:Int) ([] : List Int)) (api_Extreme.mk false (0:Int) (0:Int) (0:Int) ([] : List api_Item)) (api_Sample.mk ([] : List api_Chain)) (api_Summary.mk (0:Int) (0:Int) (0:Int) ([] : List api_Tuple)) (api_Quantile.mk (0:Int) (0:Int) (0:Int) (0:Int) ([] : List api_Block))), y1_1)) <|
  let y4_1 := (ref06_Tick p1);
  cond (!y4_1) (
    some ((api_Synopsis.mk (api_Config.mk (0:Int) (0:Int) (0:Int) (0:Int) (0:Int) (0:Int) (0:Int) (0:Int)) (api_Recent.mk (0:Int) (0:Int) (0:Int) ([] : List api_Item)) (api_Count.mk (0:Int) (0:Int) (0:Int) (0:Int) ([] : List api_Bucket)) (api_Sum.mk (0:Int) (0:Int) (0:Int) (0:Int) (0:Int) ([] : List api_Bucket)) (api_Smooth.mk (0:Int) (0:Int) (0:Int) (0:Int) (0:Int) (0:Int) ([] : List api_Mark)) (api_Spread.mk (0:Int) (0:Int) (0:Int) (0:Int) (0:Int) ([] : List api_Mark)) (api_Poly.mk (0:Int) (0:Int) (0:Int) ([] : List api_Wide)) (api_Halve.mk (0:Int) ([] : List Int)) (api_Extreme.mk false (0:Int) (0:Int) (0:Int) ([] : List api_Item)) (api_Sample.mk ([] : List api_Chain)) (api_Summary.mk (0:Int) (0:Int) (0:Int) ([] : List api_Tuple)) (api_Quantile.mk (0:Int) (0:Int) (0:Int) (0:Int) ([] : List api_Block))), (1:Int))) <|
  cond (p0.Kind == (1:Int)) (
    let y9_5 := (ref09_New p0.W p0.Cap p1);
    ref25_New_j4 p0 y9_5.1.W y9_5.1.Cap y9_5.1.Now y9_5.1.Items (0:Int) (0:Int) (0:Int) (0:Int) ([] : List api_Bucket) (0:Int) (0:Int) (0:Int) (0:Int) (0:Int) ([] : List api_Bucket) (0:Int) (0:Int) (0:Int) (0:Int) (0:Int) (0:Int) ([] : List api_Mark) (0:Int) (0:Int) (0:Int) (0:Int) (0:Int) ([] : List api_Mark) (0:Int) (0:Int) (0:Int) ([] : List api_Wide) (0:Int) ([] : List Int) false (0:Int) (0:Int) (0:Int) ([] : List api_Item) ([] : List api_Chain) (0:Int) (0:Int) (0:Int) ([] : List api_Tuple) (0:Int) (0:Int) (0:Int) (0:Int) ([] : List api_Block)) <|
  cond (p0.Kind == (2:Int)) (
    let y11_7 := (ref11_New p0.W p0.K p0.Cap p1);
    ref25_New_j4 p0 (0:Int) (0:Int) (0:Int) ([] : List api_Item) y11_7.1.W y11_7.1.K y11_7.1.Cap y11_7.1.Now y11_7.1.Buckets (0:Int) (0:Int) (0:Int) (0:Int) (0:Int) ([] : List api_Bucket) (0:Int) (0:Int) (0:Int) (0:Int) (0:Int) (0:Int) ([] : List api_Mark) (0:Int) (0:Int) (0:Int) (0:Int) (0:Int) ([] : List api_Mark) (0:Int) (0:Int) (0:Int) ([] : List api_Wide) (0:Int) ([] : List Int) false (0:Int) (0:Int) (0:Int) ([] : List api_Item) ([] : List api_Chain) (0:Int) (0:Int) (0:Int) ([] : List api_Tuple) (0:Int) (0:Int) (0:Int) (0:Int) ([] : List api_Block)) <|
  cond (p0.Kind == (3:Int)) (
    let y13_9 := (ref12_New p0.W p0.K p0.Cap p0.Max p1);
    ref25_New_j4 p0 (0:Int) (0:Int) (0:Int) ([] : List api_Item) (0:Int) (0:Int) (0:Int) (0:Int) ([] : List api_Bucket) y13_9.1.W y13_9.1.K y13_9.1.Cap y13_9.1.Max y13_9.1.Now y13_9.1.Buckets (0:Int) (0:Int) (0:Int) (0:Int) (0:Int) (0:Int) ([] : List api_Mark) (0:Int) (0:Int) (0:Int) (0:Int) (0:Int) ([] : List api_Mark) (0:Int) (0:Int) (0:Int) ([] : List api_Wide) (0:Int) ([] : List Int) false (0:Int) (0:Int) (0:Int) ([] : List api_Item) ([] : List api_Chain) (0:Int) (0:Int) (0:Int) ([] : List api_Tuple) (0:Int) (0:Int) (0:Int) (0:Int) ([] : List api_Block)) <|
  cond (p0.Kind == (4:Int)) (
    let y15_9 := (ref13_New p0.Agg p0.W p0.K p0.Cap p1);
    ref25_New_j4 p0 (0:Int) (0:Int) (0:Int) ([] : List api_Item) (0:Int) (0:Int) (0:Int) (0:Int) ([] : List api_Bucket) (0:Int) (0:Int) (0:Int) (0:Int) (0:Int) ([] : List api_Bucket) y15_9.1.Agg y15_9.1.W y15_9.1.K y15_9.1.Cap y15_9.1.Now y15_9.1.Seq y15_9.1.Marks (0:Int) (0:Int) (0:Int) (0:Int) (0:Int) ([] : List api_Mark) (0:Int) (0:Int) (0:Int) ([] : List api_Wide) (0:Int) ([] : List Int) false (0:Int) (0:Int) (0:Int) ([] : List api_Item) ([] : List api_Chain) (0:Int) (0:Int) (0:Int) ([] : List api_Tuple) (0:Int) (0:Int) (0:Int) (0:Int) ([] : List api_Block)) <|
  cond (p0.Kind == (5:Int)) (
    let y17_7 := (ref14_New p0.W p0.K p0.Cap p1);
    ref25_New_j4 p0 (0:Int) (0:Int) (0:Int) ([] : List api_Item) (0:Int) (0:Int) (0:Int) (0:Int) ([] : List api_Bucket) (0:Int) (0:Int) (0:Int) (0:Int) (0:Int) ([] : List api_Bucket) (0:Int) (0:Int) (0:Int) (0:Int) (0:Int) (0:Int) ([] : List api_Mark) y17_7.1.W y17_7.1.K y17_7.1.Cap y17_7.1.Now y17_7.1.Seq y17_7.1.Marks (0:Int) (0:Int) (0:Int) ([] : List api_Wide) (0:Int) ([] : List Int) false (0:Int) (0:Int) (0:Int) ([] : List api_Item) ([] : List api_Chain) (0:Int) (0:Int) (0:Int) ([] : List api_Tuple) (0:Int) (0:Int) (0:Int) (0:Int) ([] : List api_Block)) <|
  cond (p0.Kind == (6:Int)) (
    Option.bind (ref15_New p0.P p1) fun y19_3 =>
    ref25_New_j4 p0 (0:Int) (0:Int) (0:Int) ([] : List api_Item) (0:Int) (0:Int) (0:Int) (0:Int) ([] : List api_Bucket) (0:Int) (0:Int) (0:Int) (0:Int) (0:Int) ([] : List api_Bucket) (0:Int) (0:Int) (0:Int) (0:Int) (0:Int) (0:Int) ([] : List api_Mark) (0:Int) (0:Int) (0:Int) (0:Int) (0:Int) ([] : List api_Mark) y19_3.1.P y19_3.1.Land y19_3.1.Now y19_3.1.Moments (0:Int) ([] : List Int) false (0:Int) (0:Int) (0:Int) ([] : List api_Item) ([] : List api_Chain) (0:Int) (0:Int) (0:Int) ([] : List api_Tuple) (0:Int) (0:Int) (0:Int) (0:Int) ([] : List api_Block)) <|
  cond (p0.Kind == (7:Int)) (
    Option.bind (ref16_New p0.W p1) fun y21_3 =>
    ref25_New_j4 p0 (0:Int) (0:Int) (0:Int) ([] : List api_Item) (0:Int) (0:Int) (0:Int) (0:Int) ([] : List api_Bucket) (0:Int) (0:Int) (0:Int) (0:Int) (0:Int) ([] : List api_Bucket) (0:Int) (0:Int) (0:Int) (0:Int) (0:Int) (0:Int) ([] : List api_Mark) (0:Int) (0:Int) (0:Int) (0:Int) (0:Int) ([] : List api_Mark) (0:Int) (0:Int) (0:Int) ([] : List api_Wide) y21_3.1.Now y21_3.1.Sums false (0:Int) (0:Int) (0:Int) ([] : List api_Item) ([] : List api_Chain) (0:Int) (0:Int) (0:Int) ([] : List api_Tuple) (0:Int) (0:Int) (0:Int) (0:Int) ([] : List api_Block)) <|
  cond (p0.Kind == (8:Int)) (
    let y23_8 := (ref17_New (p0.Max == (1:Int)) p0.W p0.Cap p1);
    ref25_New_j4 p0 (0:Int) (0:Int) (0:Int) ([] : List api_Item) (0:Int) (0:Int) (0:Int) (0:Int) ([] : List api_Bucket) (0:Int) (0:Int) (0:Int) (0:Int) (0:Int) ([] : List api_Bucket) (0:Int) (0:Int) (0:Int) (0:Int) (0:Int) (0:Int) ([] : List api_Mark) (0:Int) (0:Int) (0:Int) (0:Int) (0:Int) ([] : List api_Mark) (0:Int) (0:Int) (0:Int) ([] : List api_Wide) (0:Int) ([] : List Int) y23_8.1.Max y23_8.1.W y23_8.1.Cap y23_8.1.Now y23_8.1.Items ([] : List api_Chain) (0:Int) (0:Int) (0:Int) ([] : List api_Tuple) (0:Int) (0:Int) (0:Int) (0:Int) ([] : List api_Block)) <|
  cond (p0.Kind == (9:Int)) (
    Option.bind (ref19_New p0.Chains p0.W p0.Cap) fun y25_6 =>
    ref25_New_j4 p0 (0:Int) (0:Int) (0:Int) ([] : List api_Item) (0:Int) (0:Int) (0:Int) (0:Int) ([] : List api_Bucket) (0:Int) (0:Int) (0:Int) (0:Int) (0:Int) ([] : List api_Bucket) (0:Int) (0:Int) (0:Int) (0:Int) (0:Int) (0:Int) ([] : List api_Mark) (0:Int) (0:Int) (0:Int) (0:Int) (0:Int) ([] : List api_Mark) (0:Int) (0:Int) (0:Int) ([] : List api_Wide) (0:Int) ([] : List Int) false (0:Int) (0:Int) (0:Int) ([] : List api_Item) y25_6.1.Chains (0:Int) (0:Int) (0:Int) ([] : List api_Tuple) (0:Int) (0:Int) (0:Int) (0:Int) ([] : List api_Block)) <|
  cond (p0.Kind == (10:Int)) (
    let y27_4 := (ref20_New p0.K p0.Cap);
    ref25_New_j4 p0 (0:Int) (0:Int) (0:Int) ([] : List api_Item) (0:Int) (0:Int) (0:Int) (0:Int) ([] : List api_Bucket) (0:Int) (0:Int) (0:Int) (0:Int) (0:Int) ([] : List api_Bucket) (0:Int) (0:Int) (0:Int) (0:Int) (0:Int) (0:Int) ([] : List api_Mark) (0:Int) (0:Int) (0:Int) (0:Int) (0:Int) ([] : List api_Mark) (0:Int) (0:Int) (0:Int) ([] : List api_Wide) (0:Int) ([] : List Int) false (0:Int) (0:Int) (0:Int) ([] : List api_Item) ([] : List api_Chain) y27_4.1.K y27_4.1.Cap y27_4.1.N y27_4.1.Tuples (0:Int) (0:Int) (0:Int) (0:Int) ([] : List api_Block)) <|
  cond (p0.Kind == (11:Int)) (
    let y29_7 := (ref23_New p0.W p0.K p0.Cap p1);
    ref25_New_j4 p0 (0:Int) (0:Int) (0:Int) ([] : List api_Item) (0:Int) (0:Int) (0:Int) (0:Int) ([] : List api_Bucket) (0:Int) (0:Int) (0:Int) (0:Int) (0:Int) ([] : List api_Bucket) (0:Int) (0:Int) (0:Int) (0:Int) (0:Int) (0:Int) ([] : List api_Mark) (0:Int) (0:Int) (0:Int) (0:Int) (0:Int) ([] : List api_Mark) (0:Int) (0:Int) (0:Int) ([] : List api_Wide) (0:Int) ([] : List Int) false (0:Int) (0:Int) (0:Int) ([] : List api_Item) ([] : List api_Chain) (0:Int) (0:Int) (0:Int) ([] : List api_Tuple) y29_7.1.W y29_7.1.K y29_7.1.Cap y29_7.1.Now y29_7.1.Blocks) <|
  ref25_New_j4 p0 (0:Int) (0:Int) (0:Int) ([] : List api_Item) (0:Int) (0:Int) (0:Int) (0:Int) ([] : List api_Bucket) (0:Int) (0:Int) (0:Int) (0:Int) (0:Int) ([] : List api_Bucket) (0:Int) (0:Int) (0:Int) (0:Int) (0:Int) (0:Int) ([] : List api_Mark) (0:Int) (0:Int) (0:Int) (0:Int) (0:Int) ([] : List api_Mark) (0:Int) (0:Int) (0:Int) ([] : List api_Wide) (0:Int) ([] : List Int) false (0:Int) (0:Int) (0:Int) ([] : List api_Item) ([] : List api_Chain) (0:Int) (0:Int) (0:Int) ([] : List api_Tuple) (0:Int) (0:Int) (0:Int) (0:Int) ([] : List api_Block)

noncomputable def ref05_SameItems_l3s (p0 : (List api_Item)) (p1 : (List api_Item)) (v3_13 : Int) : Option (Int ⊕ Bool) :=
  cond (decide (v3_13 < (p0.length : Int))) (
    Option.bind (idx p0 v3_13) fun x6_2 =>
    Option.bind (idx p1 v3_13) fun x6_6 =>
    cond (!(x6_2.T == x6_6.T && (x6_2.V == x6_6.V && true))) (
      some (.inr false)) <|
    some (.inl (w64 (v3_13 + (1:Int))))) <|
  Option.map Sum.inr (some true)

noncomputable def ref05_SameItems_l3 (p0 : (List api_Item)) (p1 : (List api_Item)) (v3_13 : Int) : Option Bool :=
  loop (fun (s : Int) => ref05_SameItems_l3s p0 p1 s) v3_13

noncomputable def ref05_SameItems (p0 : (List api_Item)) (p1 : (List api_Item)) : Option Bool :=
  cond ((p0.length : Int) != (p1.length : Int)) (
    some false) <|
  ref05_SameItems_l3 p0 p1 (0:Int)

noncomputable def ref09_Same (p0 : api_Recent) (p1 : api_Recent) : Option Bool :=
  Option.bind (gd (((p0.W == p1.W) && (p0.Cap == p1.Cap)) && (p0.Now == p1.Now)) (ref05_SameItems p0.Items p1.Items)) fun y1_24 =>
  some ((((p0.W == p1.W) && (p0.Cap == p1.Cap)) && (p0.Now == p1.Now)) && y1_24)

noncomputable def ref10_Same_l3s (p0 : (List api_Bucket)) (p1 : (List api_Bucket)) (v3_13 : Int) : Option (Int ⊕ Bool) :=
  cond (decide (v3_13 < (p0.length : Int))) (
    Option.bind (idx p0 v3_13) fun x6_2 =>
    Option.bind (idx p1 v3_13) fun x6_6 =>
    cond (!(x6_2.T == x6_6.T && (x6_2.Level == x6_6.Level && true))) (
      some (.inr false)) <|
    some (.inl (w64 (v3_13 + (1:Int))))) <|
  Option.map Sum.inr (some true)

noncomputable def ref10_Same_l3 (p0 : (List api_Bucket)) (p1 : (List api_Bucket)) (v3_13 : Int) : Option Bool :=
  loop (fun (s : Int) => ref10_Same_l3s p0 p1 s) v3_13

noncomputable def ref10_Same (p0 : (List api_Bucket)) (p1 : (List api_Bucket)) : Option Bool :=
  cond ((p0.length : Int) != (p1.length : Int)) (
    some false) <|
  ref10_Same_l3 p0 p1 (0:Int)

noncomputable def ref11_Same (p0 : api_Count) (p1 : api_Count) : Option Bool :=
  Option.bind (gd ((((p0.W == p1.W) && (p0.K == p1.K)) && (p0.Cap == p1.Cap)) && (p0.Now == p1.Now)) (ref10_Same p0.Buckets p1.Buckets)) fun y1_31 =>
  some (((((p0.W == p1.W) && (p0.K == p1.K)) && (p0.Cap == p1.Cap)) && (p0.Now == p1.Now)) && y1_31)

noncomputable def ref12_Same (p0 : api_Sum) (p1 : api_Sum) : Option Bool :=
  Option.bind (gd (((((p0.W == p1.W) && (p0.K == p1.K)) && (p0.Cap == p1.Cap)) && (p0.Max == p1.Max)) && (p0.Now == p1.Now)) (ref10_Same p0.Buckets p1.Buckets)) fun y1_38 =>
  some ((((((p0.W == p1.W) && (p0.K == p1.K)) && (p0.Cap == p1.Cap)) && (p0.Max == p1.Max)) && (p0.Now == p1.Now)) && y1_38)

noncomputable def ref13_SameMarks_l3s (p0 : (List api_Mark)) (p1 : (List api_Mark)) (v3_13 : Int) : Option (Int ⊕ Bool) :=
  cond (decide (v3_13 < (p0.length : Int))) (
    Option.bind (idx p0 v3_13) fun x6_2 =>
    Option.bind (idx p1 v3_13) fun x6_6 =>
    cond (!(x6_2.Seq == x6_6.Seq && (x6_2.T == x6_6.T && (x6_2.N == x6_6.N && (x6_2.S == x6_6.S && (x6_2.Q == x6_6.Q && (x6_2.Min == x6_6.Min && (x6_2.Max == x6_6.Max && true)))))))) (
      some (.inr false)) <|
    some (.inl (w64 (v3_13 + (1:Int))))) <|
  Option.map Sum.inr (some true)

noncomputable def ref13_SameMarks_l3 (p0 : (List api_Mark)) (p1 : (List api_Mark)) (v3_13 : Int) : Option Bool :=
  loop (fun (s : Int) => ref13_SameMarks_l3s p0 p1 s) v3_13

noncomputable def ref13_SameMarks (p0 : (List api_Mark)) (p1 : (List api_Mark)) : Option Bool :=
  cond ((p0.length : Int) != (p1.length : Int)) (
    some false) <|
  ref13_SameMarks_l3 p0 p1 (0:Int)

noncomputable def ref13_Same (p0 : api_Smooth) (p1 : api_Smooth) : Option Bool :=
  Option.bind (gd ((((((p0.Agg == p1.Agg) && (p0.W == p1.W)) && (p0.K == p1.K)) && (p0.Cap == p1.Cap)) && (p0.Now == p1.Now)) && (p0.Seq == p1.Seq)) (ref13_SameMarks p0.Marks p1.Marks)) fun y1_45 =>
  some (((((((p0.Agg == p1.Agg) && (p0.W == p1.W)) && (p0.K == p1.K)) && (p0.Cap == p1.Cap)) && (p0.Now == p1.Now)) && (p0.Seq == p1.Seq)) && y1_45)

noncomputable def ref14_Same (p0 : api_Spread) (p1 : api_Spread) : Option Bool :=
  Option.bind (gd (((((p0.W == p1.W) && (p0.K == p1.K)) && (p0.Cap == p1.Cap)) && (p0.Now == p1.Now)) && (p0.Seq == p1.Seq)) (ref13_SameMarks p0.Marks p1.Marks)) fun y1_38 =>
  some ((((((p0.W == p1.W) && (p0.K == p1.K)) && (p0.Cap == p1.Cap)) && (p0.Now == p1.Now)) && (p0.Seq == p1.Seq)) && y1_38)

noncomputable def ref15_SameWide_l3s (p0 : (List api_Wide)) (p1 : (List api_Wide)) (v3_13 : Int) : Option (Int ⊕ Bool) :=
  cond (decide (v3_13 < (p0.length : Int))) (
    Option.bind (idx p0 v3_13) fun x6_2 =>
    Option.bind (idx p1 v3_13) fun x6_6 =>
    cond (!(x6_2.Hi == x6_6.Hi && (x6_2.Lo == x6_6.Lo && true))) (
      some (.inr false)) <|
    some (.inl (w64 (v3_13 + (1:Int))))) <|
  Option.map Sum.inr (some true)

noncomputable def ref15_SameWide_l3 (p0 : (List api_Wide)) (p1 : (List api_Wide)) (v3_13 : Int) : Option Bool :=
  loop (fun (s : Int) => ref15_SameWide_l3s p0 p1 s) v3_13

noncomputable def ref15_SameWide (p0 : (List api_Wide)) (p1 : (List api_Wide)) : Option Bool :=
  cond ((p0.length : Int) != (p1.length : Int)) (
    some false) <|
  ref15_SameWide_l3 p0 p1 (0:Int)

noncomputable def ref15_Same (p0 : api_Poly) (p1 : api_Poly) : Option Bool :=
  Option.bind (gd (((p0.P == p1.P) && (p0.Land == p1.Land)) && (p0.Now == p1.Now)) (ref15_SameWide p0.Moments p1.Moments)) fun y1_24 =>
  some ((((p0.P == p1.P) && (p0.Land == p1.Land)) && (p0.Now == p1.Now)) && y1_24)

noncomputable def ref09_SameNumbers_l3s (p0 : (List Int)) (p1 : (List Int)) (v3_13 : Int) : Option (Int ⊕ Bool) :=
  cond (decide (v3_13 < (p0.length : Int))) (
    Option.bind (idx p0 v3_13) fun x6_2 =>
    Option.bind (idx p1 v3_13) fun x6_6 =>
    cond (x6_2 != x6_6) (
      some (.inr false)) <|
    some (.inl (w64 (v3_13 + (1:Int))))) <|
  Option.map Sum.inr (some true)

noncomputable def ref09_SameNumbers_l3 (p0 : (List Int)) (p1 : (List Int)) (v3_13 : Int) : Option Bool :=
  loop (fun (s : Int) => ref09_SameNumbers_l3s p0 p1 s) v3_13

noncomputable def ref09_SameNumbers (p0 : (List Int)) (p1 : (List Int)) : Option Bool :=
  cond ((p0.length : Int) != (p1.length : Int)) (
    some false) <|
  ref09_SameNumbers_l3 p0 p1 (0:Int)

noncomputable def ref16_Same (p0 : api_Halve) (p1 : api_Halve) : Option Bool :=
  Option.bind (gd (p0.Now == p1.Now) (ref09_SameNumbers p0.Sums p1.Sums)) fun y1_10 =>
  some ((p0.Now == p1.Now) && y1_10)

noncomputable def ref17_Same (p0 : api_Extreme) (p1 : api_Extreme) : Option Bool :=
  Option.bind (gd ((((p0.Max == p1.Max) && (p0.W == p1.W)) && (p0.Cap == p1.Cap)) && (p0.Now == p1.Now)) (ref05_SameItems p0.Items p1.Items)) fun y1_31 =>
  some (((((p0.Max == p1.Max) && (p0.W == p1.W)) && (p0.Cap == p1.Cap)) && (p0.Now == p1.Now)) && y1_31)

noncomputable def ref18_Same_l3s (p0 : api_Chain) (p1 : api_Chain) (v3_44 : Int) : Option (Int ⊕ Bool) :=
  cond (decide (v3_44 < (p0.Links.length : Int))) (
    Option.bind (idx p0.Links v3_44) fun x6_3 =>
    Option.bind (idx p1.Links v3_44) fun x6_8 =>
    cond (!(x6_3.I == x6_8.I && (x6_3.V == x6_8.V && true))) (
      some (.inr false)) <|
    some (.inl (w64 (v3_44 + (1:Int))))) <|
  Option.map Sum.inr (some true)

noncomputable def ref18_Same_l3 (p0 : api_Chain) (p1 : api_Chain) (v3_44 : Int) : Option Bool :=
  loop (fun (s : Int) => ref18_Same_l3s p0 p1 s) v3_44

noncomputable def ref18_Same (p0 : api_Chain) (p1 : api_Chain) : Option Bool :=
  cond (((((p0.W != p1.W) || (p0.Cap != p1.Cap)) || (p0.I != p1.I)) || (p0.Next != p1.Next)) || ((p0.Links.length : Int) != (p1.Links.length : Int))) (
    some false) <|
  ref18_Same_l3 p0 p1 (0:Int)

noncomputable def ref19_Same_l3s (p0 : api_Sample) (p1 : api_Sample) (v3_16 : Int) : Option (Int ⊕ Bool) :=
  cond (decide (v3_16 < (p0.Chains.length : Int))) (
    Option.bind (idx p0.Chains v3_16) fun x6_3 =>
    Option.bind (idx p1.Chains v3_16) fun x6_8 =>
    Option.bind (ref18_Same x6_3 x6_8) fun y6_10 =>
    cond (!y6_10) (
      some (.inr false)) <|
    some (.inl (w64 (v3_16 + (1:Int))))) <|
  Option.map Sum.inr (some true)

noncomputable def ref19_Same_l3 (p0 : api_Sample) (p1 : api_Sample) (v3_16 : Int) : Option Bool :=
  loop (fun (s : Int) => ref19_Same_l3s p0 p1 s) v3_16

noncomputable def ref19_Same (p0 : api_Sample) (p1 : api_Sample) : Option Bool :=
  cond ((p0.Chains.length : Int) != (p1.Chains.length : Int)) (
    some false) <|
  ref19_Same_l3 p0 p1 (0:Int)

noncomputable def ref20_Same_l3s (p0 : api_Summary) (p1 : api_Summary) (v3_37 : Int) : Option (Int ⊕ Bool) :=
  cond (decide (v3_37 < (p0.Tuples.length : Int))) (
    Option.bind (idx p0.Tuples v3_37) fun x6_3 =>
    Option.bind (idx p1.Tuples v3_37) fun x6_8 =>
    cond (!(x6_3.V == x6_8.V && (x6_3.G == x6_8.G && (x6_3.D == x6_8.D && true)))) (
      some (.inr false)) <|
    some (.inl (w64 (v3_37 + (1:Int))))) <|
  Option.map Sum.inr (some true)

noncomputable def ref20_Same_l3 (p0 : api_Summary) (p1 : api_Summary) (v3_37 : Int) : Option Bool :=
  loop (fun (s : Int) => ref20_Same_l3s p0 p1 s) v3_37

noncomputable def ref20_Same (p0 : api_Summary) (p1 : api_Summary) : Option Bool :=
  cond ((((p0.K != p1.K) || (p0.Cap != p1.Cap)) || (p0.N != p1.N)) || ((p0.Tuples.length : Int) != (p1.Tuples.length : Int))) (
    some false) <|
  ref20_Same_l3 p0 p1 (0:Int)

noncomputable def ref21_Same_l3s (p0 : api_Ranks) (p1 : api_Ranks) (v3_23 : Int) : Option (Int ⊕ Bool) :=
  cond (decide (v3_23 < (p0.Entries.length : Int))) (
    Option.bind (idx p0.Entries v3_23) fun x6_3 =>
    Option.bind (idx p1.Entries v3_23) fun x6_8 =>
    cond (!(x6_3.V == x6_8.V && (x6_3.Min == x6_8.Min && (x6_3.Max == x6_8.Max && true)))) (
      some (.inr false)) <|
    some (.inl (w64 (v3_23 + (1:Int))))) <|
  Option.map Sum.inr (some true)

noncomputable def ref21_Same_l3 (p0 : api_Ranks) (p1 : api_Ranks) (v3_23 : Int) : Option Bool :=
  loop (fun (s : Int) => ref21_Same_l3s p0 p1 s) v3_23

noncomputable def ref21_Same (p0 : api_Ranks) (p1 : api_Ranks) : Option Bool :=
  cond ((p0.N != p1.N) || ((p0.Entries.length : Int) != (p1.Entries.length : Int))) (
    some false) <|
  ref21_Same_l3 p0 p1 (0:Int)

noncomputable def ref22_Same_l3s (p0 : (List api_Block)) (p1 : (List api_Block)) (v3_13 : Int) : Option (Int ⊕ Bool) :=
  cond (decide (v3_13 < (p0.length : Int))) (
    Option.bind (idx p0 v3_13) fun x6_2 =>
    Option.bind (idx p1 v3_13) fun x6_7 =>
    Option.bind (gd (!(x6_2.T != x6_7.T)) (idx p0 v3_13)) fun x6_14 =>
    Option.bind (gd (!(x6_2.T != x6_7.T)) (idx p1 v3_13)) fun x6_19 =>
    Option.bind (gd (!((x6_2.T != x6_7.T) || (x6_14.Last != x6_19.Last))) (idx p0 v3_13)) fun x6_27 =>
    Option.bind (gd (!((x6_2.T != x6_7.T) || (x6_14.Last != x6_19.Last))) (idx p1 v3_13)) fun x6_32 =>
    Option.bind (gd (!(((x6_2.T != x6_7.T) || (x6_14.Last != x6_19.Last)) || (x6_27.Level != x6_32.Level))) (idx p0 v3_13)) fun x6_40 =>
    Option.bind (gd (!(((x6_2.T != x6_7.T) || (x6_14.Last != x6_19.Last)) || (x6_27.Level != x6_32.Level))) (idx p1 v3_13)) fun x6_45 =>
    Option.bind (gd (!(((x6_2.T != x6_7.T) || (x6_14.Last != x6_19.Last)) || (x6_27.Level != x6_32.Level))) (ref21_Same x6_40.Ranks x6_45.Ranks)) fun y6_48 =>
    cond ((((x6_2.T != x6_7.T) || (x6_14.Last != x6_19.Last)) || (x6_27.Level != x6_32.Level)) || (!y6_48)) (
      some (.inr false)) <|
    some (.inl (w64 (v3_13 + (1:Int))))) <|
  Option.map Sum.inr (some true)

noncomputable def ref22_Same_l3 (p0 : (List api_Block)) (p1 : (List api_Block)) (v3_13 : Int) : Option Bool :=
  loop (fun (s : Int) => ref22_Same_l3s p0 p1 s) v3_13

noncomputable def ref22_Same (p0 : (List api_Block)) (p1 : (List api_Block)) : Option Bool :=
  cond ((p0.length : Int) != (p1.length : Int)) (
    some false) <|
  ref22_Same_l3 p0 p1 (0:Int)

noncomputable def ref23_Same (p0 : api_Quantile) (p1 : api_Quantile) : Option Bool :=
  Option.bind (gd ((((p0.W == p1.W) && (p0.K == p1.K)) && (p0.Cap == p1.Cap)) && (p0.Now == p1.Now)) (ref22_Same p0.Blocks p1.Blocks)) fun y1_31 =>
  some (((((p0.W == p1.W) && (p0.K == p1.K)) && (p0.Cap == p1.Cap)) && (p0.Now == p1.Now)) && y1_31)

noncomputable def ref25_Same (p0 : api_Synopsis) (p1 : api_Synopsis) : Option Bool :=
  Option.bind (gd (p0.Config.Kind == p1.Config.Kind && (p0.Config.Agg == p1.Config.Agg && (p0.Config.W == p1.Config.W && (p0.Config.K == p1.Config.K && (p0.Config.Cap == p1.Config.Cap && (p0.Config.P == p1.Config.P && (p0.Config.Chains == p1.Config.Chains && (p0.Config.Max == p1.Config.Max && true)))))))) (ref09_Same p0.Recent p1.Recent)) fun y1_10 =>
  Option.bind (gd ((p0.Config.Kind == p1.Config.Kind && (p0.Config.Agg == p1.Config.Agg && (p0.Config.W == p1.Config.W && (p0.Config.K == p1.Config.K && (p0.Config.Cap == p1.Config.Cap && (p0.Config.P == p1.Config.P && (p0.Config.Chains == p1.Config.Chains && (p0.Config.Max == p1.Config.Max && true)))))))) && y1_10) (ref11_Same p0.Count p1.Count)) fun y1_17 =>
  Option.bind (gd (((p0.Config.Kind == p1.Config.Kind && (p0.Config.Agg == p1.Config.Agg && (p0.Config.W == p1.Config.W && (p0.Config.K == p1.Config.K && (p0.Config.Cap == p1.Config.Cap && (p0.Config.P == p1.Config.P && (p0.Config.Chains == p1.Config.Chains && (p0.Config.Max == p1.Config.Max && true)))))))) && y1_10) && y1_17) (ref12_Same p0.Sum p1.Sum)) fun y1_24 =>
  Option.bind (gd ((((p0.Config.Kind == p1.Config.Kind && (p0.Config.Agg == p1.Config.Agg && (p0.Config.W == p1.Config.W && (p0.Config.K == p1.Config.K && (p0.Config.Cap == p1.Config.Cap && (p0.Config.P == p1.Config.P && (p0.Config.Chains == p1.Config.Chains && (p0.Config.Max == p1.Config.Max && true)))))))) && y1_10) && y1_17) && y1_24) (ref13_Same p0.Smooth p1.Smooth)) fun y1_31 =>
  Option.bind (gd (((((p0.Config.Kind == p1.Config.Kind && (p0.Config.Agg == p1.Config.Agg && (p0.Config.W == p1.Config.W && (p0.Config.K == p1.Config.K && (p0.Config.Cap == p1.Config.Cap && (p0.Config.P == p1.Config.P && (p0.Config.Chains == p1.Config.Chains && (p0.Config.Max == p1.Config.Max && true)))))))) && y1_10) && y1_17) && y1_24) && y1_31) (ref14_Same p0.Spread p1.Spread)) fun y1_38 =>
  Option.bind (gd ((((((p0.Config.Kind == p1.Config.Kind && (p0.Config.Agg == p1.Config.Agg && (p0.Config.W == p1.Config.W && (p0.Config.K == p1.Config.K && (p0.Config.Cap == p1.Config.Cap && (p0.Config.P == p1.Config.P && (p0.Config.Chains == p1.Config.Chains && (p0.Config.Max == p1.Config.Max && true)))))))) && y1_10) && y1_17) && y1_24) && y1_31) && y1_38) (ref15_Same p0.Poly p1.Poly)) fun y1_45 =>
  Option.bind (gd (((((((p0.Config.Kind == p1.Config.Kind && (p0.Config.Agg == p1.Config.Agg && (p0.Config.W == p1.Config.W && (p0.Config.K == p1.Config.K && (p0.Config.Cap == p1.Config.Cap && (p0.Config.P == p1.Config.P && (p0.Config.Chains == p1.Config.Chains && (p0.Config.Max == p1.Config.Max && true)))))))) && y1_10) && y1_17) && y1_24) && y1_31) && y1_38) && y1_45) (ref16_Same p0.Halve p1.Halve)) fun y1_52 =>
  Option.bind (gd ((((((((p0.Config.Kind == p1.Config.Kind && (p0.Config.Agg == p1.Config.Agg && (p0.Config.W == p1.Config.W && (p0.Config.K == p1.Config.K && (p0.Config.Cap == p1.Config.Cap && (p0.Config.P == p1.Config.P && (p0.Config.Chains == p1.Config.Chains && (p0.Config.Max == p1.Config.Max && true)))))))) && y1_10) && y1_17) && y1_24) && y1_31) && y1_38) && y1_45) && y1_52) (ref17_Same p0.Extreme p1.Extreme)) fun y1_59 =>
  Option.bind (gd (((((((((p0.Config.Kind == p1.Config.Kind && (p0.Config.Agg == p1.Config.Agg && (p0.Config.W == p1.Config.W && (p0.Config.K == p1.Config.K && (p0.Config.Cap == p1.Config.Cap && (p0.Config.P == p1.Config.P && (p0.Config.Chains == p1.Config.Chains && (p0.Config.Max == p1.Config.Max && true)))))))) && y1_10) && y1_17) && y1_24) && y1_31) && y1_38) && y1_45) && y1_52) && y1_59) (ref19_Same p0.Sample p1.Sample)) fun y1_66 =>
  Option.bind (gd ((((((((((p0.Config.Kind == p1.Config.Kind && (p0.Config.Agg == p1.Config.Agg && (p0.Config.W == p1.Config.W && (p0.Config.K == p1.Config.K && (p0.Config.Cap == p1.Config.Cap && (p0.Config.P == p1.Config.P && (p0.Config.Chains == p1.Config.Chains && (p0.Config.Max == p1.Config.Max && true)))))))) && y1_10) && y1_17) && y1_24) && y1_31) && y1_38) && y1_45) && y1_52) && y1_59) && y1_66) (ref20_Same p0.Summary p1.Summary)) fun y1_73 =>
  Option.bind (gd (((((((((((p0.Config.Kind == p1.Config.Kind && (p0.Config.Agg == p1.Config.Agg && (p0.Config.W == p1.Config.W && (p0.Config.K == p1.Config.K && (p0.Config.Cap == p1.Config.Cap && (p0.Config.P == p1.Config.P && (p0.Config.Chains == p1.Config.Chains && (p0.Config.Max == p1.Config.Max && true)))))))) && y1_10) && y1_17) && y1_24) && y1_31) && y1_38) && y1_45) && y1_52) && y1_59) && y1_66) && y1_73) (ref23_Same p0.Quantile p1.Quantile)) fun y1_80 =>
  some ((((((((((((p0.Config.Kind == p1.Config.Kind && (p0.Config.Agg == p1.Config.Agg && (p0.Config.W == p1.Config.W && (p0.Config.K == p1.Config.K && (p0.Config.Cap == p1.Config.Cap && (p0.Config.P == p1.Config.P && (p0.Config.Chains == p1.Config.Chains && (p0.Config.Max == p1.Config.Max && true)))))))) && y1_10) && y1_17) && y1_24) && y1_31) && y1_38) && y1_45) && y1_52) && y1_59) && y1_66) && y1_73) && y1_80)

noncomputable def law25_SynopsisNew (p0 : api_Config) (p1 : Int) : Option Bool :=
  Option.bind (synopsis_New p0 p1) fun y1_2 =>
  Option.bind (ref25_New p0 p1) fun y2_2 =>
  Option.bind (ref25_Same y1_2.1 y2_2.1) fun y3_2 =>
  Option.bind (gd (y3_2 && (y1_2.2 == y2_2.2)) law25_awake) fun y3_9 =>
  some ((y3_2 && (y1_2.2 == y2_2.2)) && y3_9)

noncomputable def ref01_Bits_l2s (v2_0 : Int) (v2_3 : Int) : Option ((Int × Int) ⊕ Int) :=
  cond (decide (v2_0 > (0:Int))) (
    some (.inl ((w64 (Int.tdiv v2_0 (2:Int))), (w64 (v2_3 + (1:Int)))))) <|
  Option.map Sum.inr (some v2_3)

noncomputable def ref01_Bits_l2 (v2_0 : Int) (v2_3 : Int) : Option Int :=
  loop (fun (s : (Int × Int)) => ref01_Bits_l2s s.1 s.2) (v2_0, v2_3)

noncomputable def ref01_Bits (p0 : Int) : Option Int :=
  ref01_Bits_l2 p0 (0:Int)

noncomputable def ref01_Sub (p0 : Int) (p1 : Int) : (Int × Bool) :=
  cond (((decide (p1 < (0:Int))) && (decide (p0 > (w64 ((9223372036854775807:Int) + p1))))) || ((decide (p1 > (0:Int))) && (decide (p0 < (w64 ((-9223372036854775808:Int) + p1)))))) (
    ((0:Int), false)) <|
  ((w64 (p0 - p1)), true)

noncomputable def ref02_Add (p0 : api_Wide) (p1 : api_Wide) : Option (api_Wide × Bool) :=
  Option.bind (math_bits_Add64 p0.Lo p1.Lo (0:Int)) fun y1_4 =>
  Option.bind (math_bits_Add64 p0.Hi p1.Hi y1_4.2) fun y2_5 =>
  cond (y2_5.2 != (0:Int)) (
    some ((api_Wide.mk (0:Int) (0:Int)), false)) <|
  some ((api_Wide.mk y2_5.1 y1_4.1), true)

noncomputable def ref02_Compare (p0 : api_Wide) (p1 : api_Wide) : Int :=
  cond ((decide (p0.Hi < p1.Hi)) || ((p0.Hi == p1.Hi) && (decide (p0.Lo < p1.Lo)))) (
    (-1:Int)) <|
  cond (p0.Hi == p1.Hi && (p0.Lo == p1.Lo && true)) (
    (0:Int)) <|
  (1:Int)

noncomputable def ref02_Product (p0 : Int) (p1 : Int) : api_Wide :=
  let y1_2 := (math_bits_Mul64 p0 p1);
  (api_Wide.mk y1_2.1 y1_2.2)

noncomputable def ref02_Mul (p0 : api_Wide) (p1 : api_Wide) : Option (api_Wide × Bool) :=
  cond ((p0.Hi != (0:Int)) && (p1.Hi != (0:Int))) (
    some ((api_Wide.mk (0:Int) (0:Int)), false)) <|
  let y3_4 := (ref02_Product p0.Hi p1.Lo);
  let y3_9 := (ref02_Product p0.Lo p1.Hi);
  cond ((y3_4.Hi != (0:Int)) || (y3_9.Hi != (0:Int))) (
    some ((api_Wide.mk (0:Int) (0:Int)), false)) <|
  let y6_4 := (ref02_Product p0.Lo p1.Lo);
  Option.bind (ref02_Add y6_4 (api_Wide.mk (wu64 (y3_4.Lo + y3_9.Lo)) (0:Int))) fun y6_11 =>
  some (y6_11.1, y6_11.2)

noncomputable def ref02_Of (p0 : Int) : api_Wide :=
  (api_Wide.mk (0:Int) p0)

noncomputable def ref06_Live (p0 : Int) (p1 : Int) (p2 : Int) : Bool :=
  let y1_1 := (ref06_Tick p0);
  let y1_4 := (ref06_Window p1);
  let y1_8 := (ref06_Tick p2);
  ((((y1_1 && y1_4) && y1_8) && (decide (p2 > (w64 (p0 - p1))))) && (decide (p2 ≤ p0)))

noncomputable def ref08_Valid_l3s (p0 : (List api_Item)) (p1 : Int) (v3_12 : Int) : Option (Int ⊕ Bool) :=
  cond (decide (v3_12 < (p0.length : Int))) (
    Option.bind (idx p0 v3_12) fun x5_1 =>
    Option.bind (gd ((!((decide (x5_1.T < (0:Int))) || (decide (x5_1.T > p1)))) && (decide (v3_12 > (0:Int)))) (idx p0 (w64 (v3_12 - (1:Int))))) fun x6_16 =>
    cond (((decide (x5_1.T < (0:Int))) || (decide (x5_1.T > p1))) || ((decide (v3_12 > (0:Int))) && (decide (x6_16.T > x5_1.T)))) (
      some (.inr false)) <|
    some (.inl (w64 (v3_12 + (1:Int))))) <|
  Option.map Sum.inr (some true)

noncomputable def ref08_Valid_l3 (p0 : (List api_Item)) (p1 : Int) (v3_12 : Int) : Option Bool :=
  loop (fun (s : Int) => ref08_Valid_l3s p0 p1 s) v3_12

noncomputable def ref08_Valid (p0 : (List api_Item)) (p1 : Int) : Option Bool :=
  let y1_1 := (ref06_Tick p1);
  cond (!y1_1) (
    some false) <|
  ref08_Valid_l3 p0 p1 (0:Int)

noncomputable def ref09_Value (p0 : Int) : Bool :=
  ((decide (p0 ≥ (-4096:Int))) && (decide (p0 ≤ (4096:Int))))

noncomputable def ref09_Validate_l3s (p0 : api_Recent) (v3_32 : Int) : Option (Int ⊕ Int) :=
  cond (decide (v3_32 < (p0.Items.length : Int))) (
    Option.bind (idx p0.Items v3_32) fun x5_0 =>
    let y6_6 := (ref06_Live p0.Now p0.W x5_0.T);
    let y6_11 := (ref09_Value x5_0.V);
    cond ((!y6_6) || (!y6_11)) (
      some (.inr (2:Int))) <|
    some (.inl (w64 (v3_32 + (1:Int))))) <|
  Option.map Sum.inr (some (0:Int))

noncomputable def ref09_Validate_l3 (p0 : api_Recent) (v3_32 : Int) : Option Int :=
  loop (fun (s : Int) => ref09_Validate_l3s p0 s) v3_32

noncomputable def ref09_Validate (p0 : api_Recent) : Option Int :=
  let y1_6 := (ref09_May p0.W p0.Cap p0.Now);
  Option.bind (gd (!((!y1_6) || (decide ((p0.Items.length : Int) > p0.Cap)))) (ref08_Valid p0.Items p0.Now)) fun y1_21 =>
  cond (((!y1_6) || (decide ((p0.Items.length : Int) > p0.Cap))) || (!y1_21)) (
    some (2:Int)) <|
  ref09_Validate_l3 p0 (0:Int)

noncomputable def ref10_MayK (p0 : Int) : Bool :=
  ((decide (p0 ≥ (1:Int))) && (decide (p0 ≤ (128:Int))))

noncomputable def ref10_Total_l2s (p0 : (List api_Bucket)) (v2_3 : Int) (v2_8 : Int) : Option ((Int × Int) ⊕ Int) :=
  cond (decide (v2_8 < (p0.length : Int))) (
    Option.bind (idx p0 v2_8) fun x4_0 =>
    cond ((decide (x4_0.Level ≥ (0:Int))) && (decide (x4_0.Level ≤ (30:Int)))) (
      ck (decide (0 ≤ (wu64 x4_0.Level))) <|
      some (.inl ((w64 (v2_3 + (ishl .i64 (1:Int) (wu64 x4_0.Level)))), (w64 (v2_8 + (1:Int)))))) <|
    some (.inl (v2_3, (w64 (v2_8 + (1:Int)))))) <|
  Option.map Sum.inr (some v2_3)

noncomputable def ref10_Total_l2 (p0 : (List api_Bucket)) (v2_3 : Int) (v2_8 : Int) : Option Int :=
  loop (fun (s : (Int × Int)) => ref10_Total_l2s p0 s.1 s.2) (v2_3, v2_8)

noncomputable def ref10_Total (p0 : (List api_Bucket)) : Option Int :=
  ref10_Total_l2 p0 (0:Int) (0:Int)

noncomputable def ref10_Valid_l8s (p0 : (List api_Bucket)) (p1 : Int) (v3_5 : (List Int)) (v8_71 : Int) : Option (Int ⊕ Bool) :=
  cond (decide (v8_71 < (v3_5.length : Int))) (
    Option.bind (idx v3_5 v8_71) fun x13_1 =>
    Option.bind (idx v3_5 v8_71) fun x13_2 =>
    Option.bind (gd (decide ((p0.length : Int) > (0:Int))) (idx p0 (0:Int))) fun x14_6 =>
    cond ((decide ((p0.length : Int) > (0:Int))) && (((decide (v8_71 < x14_6.Level)) && (decide (x13_2 < p1))) || (decide (x13_2 > (w64 (p1 + (1:Int))))))) (
      some (.inr false)) <|
    some (.inl (w64 (v8_71 + (1:Int))))) <|
  Option.map Sum.inr (some true)

noncomputable def ref10_Valid_l8 (p0 : (List api_Bucket)) (p1 : Int) (v3_5 : (List Int)) (v8_71 : Int) : Option Bool :=
  loop (fun (s : Int) => ref10_Valid_l8s p0 p1 v3_5 s) v8_71

noncomputable def ref10_Valid_l3s (p0 : (List api_Bucket)) (p1 : Int) (v3_5 : (List Int)) (v3_16 : Int) : Option (((List Int) × Int) ⊕ Bool) :=
  cond (decide (v3_16 < (p0.length : Int))) (
    Option.bind (idx p0 v3_16) fun x6_1 =>
    let y7_2 := (ref06_Tick x6_1.T);
    Option.bind (gd ((!(((!y7_2) || (decide (x6_1.Level < (0:Int)))) || (decide (x6_1.Level > (30:Int))))) && (decide (v3_16 > (0:Int)))) (idx p0 (w64 (v3_16 - (1:Int))))) fun x7_21 =>
    Option.bind (gd (((!(((!y7_2) || (decide (x6_1.Level < (0:Int)))) || (decide (x6_1.Level > (30:Int))))) && (decide (v3_16 > (0:Int)))) && (!(decide (x7_21.T > x6_1.T)))) (idx p0 (w64 (v3_16 - (1:Int))))) fun x7_31 =>
    cond ((((!y7_2) || (decide (x6_1.Level < (0:Int)))) || (decide (x6_1.Level > (30:Int)))) || ((decide (v3_16 > (0:Int))) && ((decide (x7_21.T > x6_1.T)) || (decide (x7_31.Level < x6_1.Level))))) (
      some (.inr false)) <|
    Option.bind (idx v3_5 x6_1.Level) fun x9_3 =>
    Option.bind (idx v3_5 x6_1.Level) fun x9_4 =>
    Option.bind (idx v3_5 x6_1.Level) fun x9_6 =>
    Option.bind (idx v3_5 x6_1.Level) fun x9_7 =>
    some (.inl ((v3_5.set (x6_1.Level).toNat (w64 (x9_4 + (1:Int)))), (w64 (v3_16 + (1:Int)))))) <|
  Option.map Sum.inr (ref10_Valid_l8 p0 p1 v3_5 (0:Int))

noncomputable def ref10_Valid_l3 (p0 : (List api_Bucket)) (p1 : Int) (v3_5 : (List Int)) (v3_16 : Int) : Option Bool :=
  loop (fun (s : ((List Int) × Int)) => ref10_Valid_l3s p0 p1 s.1 s.2) (v3_5, v3_16)

noncomputable def ref10_Valid (p0 : (List api_Bucket)) (p1 : Int) : Option Bool :=
  let y1_1 := (ref10_MayK p1);
  cond (!y1_1) (
    some false) <|
  ck (decide (0 ≤ (31:Int) ∧ (31:Int) ≤ (31:Int) ∧ (31:Int) * 8 ≤ 140737488355328 ∧ (31:Int) ≤ 140737488355328)) <|
  ref10_Valid_l3 p0 p1 (List.replicate ((31:Int)).toNat (0:Int)) (0:Int)

noncomputable def ref11_Fits_l3s (p0 : (List api_Bucket)) (p1 : Int) (p4 : Int) (v3_37 : Int) : Option (Int ⊕ Bool) :=
  cond (decide (v3_37 < (p0.length : Int))) (
    Option.bind (idx p0 v3_37) fun x5_0 =>
    let y6_4 := (ref06_Live p4 p1 x5_0.T);
    cond (!y6_4) (
      some (.inr false)) <|
    some (.inl (w64 (v3_37 + (1:Int))))) <|
  Option.map Sum.inr (some true)

noncomputable def ref11_Fits_l3 (p0 : (List api_Bucket)) (p1 : Int) (p4 : Int) (v3_37 : Int) : Option Bool :=
  loop (fun (s : Int) => ref11_Fits_l3s p0 p1 p4 s) v3_37

noncomputable def ref11_Fits (p0 : (List api_Bucket)) (p1 : Int) (p2 : Int) (p3 : Int) (p4 : Int) : Option Bool :=
  let y1_3 := (ref09_May p1 p3 p4);
  let y1_7 := (ref11_MayK p2);
  Option.bind (gd (!((!y1_3) || (!y1_7))) (ref10_Valid p0 p2)) fun y1_13 =>
  Option.bind (gd (!(((!y1_3) || (!y1_7)) || (!y1_13))) (ref10_Total p0)) fun y1_18 =>
  cond ((((!y1_3) || (!y1_7)) || (!y1_13)) || (decide (y1_18 > p3))) (
    some false) <|
  ref11_Fits_l3 p0 p1 p4 (0:Int)

noncomputable def ref11_Validate (p0 : api_Count) : Option Int :=
  Option.bind (ref11_Fits p0.Buckets p0.W p0.K p0.Cap p0.Now) fun y1_10 =>
  cond (!y1_10) (
    some (2:Int)) <|
  some (0:Int)

noncomputable def ref12_Validate (p0 : api_Sum) : Option Int :=
  Option.bind (ref11_Fits p0.Buckets p0.W p0.K p0.Cap p0.Now) fun y1_10 =>
  let y1_15 := (ref12_MayMax p0.Max);
  cond ((!y1_10) || (!y1_15)) (
    some (2:Int)) <|
  some (0:Int)

noncomputable def ref13_Part (p0 : Int) (p1 : Int) (p2 : Int) (p3 : Int) (p4 : Int) : Bool :=
  (((((decide ((w64 (p0 * p3)) ≤ p1)) && (decide (p1 ≤ (w64 (p0 * p4))))) && (decide (p2 ≥ (0:Int)))) && (decide (p2 ≤ (w64 ((w64 (p0 * (4096:Int))) * (4096:Int)))))) && (decide ((w64 (p1 * p1)) ≤ (w64 (p0 * p2)))))

noncomputable def ref13_Value (p0 : Int) (p1 : Int) : Bool :=
  let y1_1 := (ref09_Value p1);
  (y1_1 && (((decide (p1 ≥ (0:Int))) || (p0 == (1:Int))) || (p0 == (4:Int))))

noncomputable def ref13_Marks_l3s (p0 : (List api_Mark)) (p1 : Int) (p2 : Int) (p3 : Int) (p4 : Int) (p5 : Int) (v3_24 : Int) : Option (Int ⊕ Bool) :=
  cond (decide (v3_24 < (p0.length : Int))) (
    Option.bind (idx p0 v3_24) fun x5_1 =>
    Option.bind (gd ((!((((decide (x5_1.Seq < (1:Int))) || (decide (x5_1.Seq > p5))) || (x5_1.N != (w64 ((w64 (p5 - x5_1.Seq)) + (1:Int))))) || (decide (x5_1.N > p3)))) && (decide (v3_24 > (0:Int)))) (idx p0 (w64 (v3_24 - (1:Int))))) fun x6_32 =>
    cond (((((decide (x5_1.Seq < (1:Int))) || (decide (x5_1.Seq > p5))) || (x5_1.N != (w64 ((w64 (p5 - x5_1.Seq)) + (1:Int))))) || (decide (x5_1.N > p3))) || ((decide (v3_24 > (0:Int))) && (decide (x6_32.Seq ≥ x5_1.Seq)))) (
      some (.inr false)) <|
    let y8_2 := (ref06_Tick x5_1.T);
    Option.bind (gd ((!((!y8_2) || (decide (x5_1.T > p4)))) && (decide (v3_24 > (0:Int)))) (idx p0 (w64 (v3_24 - (1:Int))))) fun x8_17 =>
    let y8_38 := (ref06_Live p4 p2 x5_1.T);
    cond ((((!y8_2) || (decide (x5_1.T > p4))) || ((decide (v3_24 > (0:Int))) && (decide (x8_17.T > x5_1.T)))) || (((decide (v3_24 > (0:Int))) || ((p0.length : Int) == (1:Int))) && (!y8_38))) (
      some (.inr false)) <|
    let y10_3 := (ref13_Value p1 x5_1.Min);
    let y10_9 := (ref13_Value p1 x5_1.Max);
    let y10_61 := (ref13_Part x5_1.N x5_1.S x5_1.Q x5_1.Min x5_1.Max);
    cond ((((((((!y10_3) || (!y10_9)) || (decide (x5_1.Min > x5_1.Max))) || (decide (x5_1.S < (w64 ((IntKind.i64.wrap (0 - x5_1.N)) * (4096:Int)))))) || (decide (x5_1.S > (w64 (x5_1.N * (4096:Int)))))) || (decide (x5_1.Q < (0:Int)))) || (decide (x5_1.Q > (w64 ((w64 (x5_1.N * (4096:Int))) * (4096:Int)))))) || (!y10_61)) (
      some (.inr false)) <|
    cond ((v3_24 == (w64 ((p0.length : Int) - (1:Int)))) && ((((x5_1.Seq != p5) || (x5_1.Min != x5_1.S)) || (x5_1.Max != x5_1.S)) || (x5_1.Q != (w64 (x5_1.S * x5_1.S))))) (
      some (.inr false)) <|
    cond (decide (v3_24 > (0:Int))) (
      Option.bind (idx p0 (w64 (v3_24 - (1:Int)))) fun x15_3 =>
      let y16_32 := (ref13_Part (w64 (x15_3.N - x5_1.N)) (w64 (x15_3.S - x5_1.S)) (w64 (x15_3.Q - x5_1.Q)) x15_3.Min x15_3.Max);
      cond (((decide (x5_1.Min < x15_3.Min)) || (decide (x5_1.Max > x15_3.Max))) || (!y16_32)) (
        some (.inr false)) <|
      some (.inl (w64 (v3_24 + (1:Int))))) <|
    some (.inl (w64 (v3_24 + (1:Int))))) <|
  Option.map Sum.inr (some true)

noncomputable def ref13_Marks_l3 (p0 : (List api_Mark)) (p1 : Int) (p2 : Int) (p3 : Int) (p4 : Int) (p5 : Int) (v3_24 : Int) : Option Bool :=
  loop (fun (s : Int) => ref13_Marks_l3s p0 p1 p2 p3 p4 p5 s) v3_24

noncomputable def ref13_Marks (p0 : (List api_Mark)) (p1 : Int) (p2 : Int) (p3 : Int) (p4 : Int) (p5 : Int) : Option Bool :=
  cond ((decide (p5 < (0:Int))) || (decide (p5 > (1099511627776:Int)))) (
    some false) <|
  ref13_Marks_l3 p0 p1 p2 p3 p4 p5 (0:Int)

noncomputable def ref13_Of_j5 : Int :=
  (0:Int)

noncomputable def ref13_Of (p0 : api_Mark) (p1 : Int) : Int :=
  cond (p1 == (1:Int)) (
    p0.N) <|
  cond (p1 == (2:Int)) (
    p0.S) <|
  cond (p1 == (3:Int)) (
    p0.Q) <|
  cond (p1 == (4:Int)) (
    let y9_4 := (ref01_Sub p0.Max p0.Min);
    cond y9_4.2 (
      y9_4.1) <|
    ref13_Of_j5) <|
  ref13_Of_j5

noncomputable def ref13_Validate_l3s (p0 : api_Smooth) (v3_47 : Int) : Option (Int ⊕ Int) :=
  cond (decide (v3_47 < (p0.Marks.length : Int))) (
    Option.bind (idx p0.Marks v3_47) fun x6_1 =>
    let y7_8 := (ref13_Of x6_1 p0.Agg);
    Option.bind (gd (decide (v3_47 > (1:Int))) (idx p0.Marks (w64 (v3_47 - (2:Int))))) fun x7_15 =>
    let y7_19 := (ref13_Of x7_15 p0.Agg);
    cond ((decide (v3_47 > (1:Int))) && (decide ((w64 ((w64 (p0.K + (1:Int))) * y7_8)) ≥ (w64 (p0.K * y7_19))))) (
      some (.inr (2:Int))) <|
    Option.bind (gd (decide (v3_47 > (0:Int))) (idx p0.Marks (w64 (v3_47 - (1:Int))))) fun x9_9 =>
    let y9_21 := (ref13_Of x6_1 p0.Agg);
    Option.bind (gd ((decide (v3_47 > (0:Int))) && (decide (x6_1.Seq > (w64 (x9_9.Seq + (1:Int)))))) (idx p0.Marks (w64 (v3_47 - (1:Int))))) fun x9_28 =>
    let y9_32 := (ref13_Of x9_28 p0.Agg);
    cond (((decide (v3_47 > (0:Int))) && (decide (x6_1.Seq > (w64 (x9_9.Seq + (1:Int)))))) && (decide ((w64 ((w64 (p0.K + (1:Int))) * y9_21)) < (w64 (p0.K * y9_32))))) (
      some (.inr (2:Int))) <|
    some (.inl (w64 (v3_47 + (1:Int))))) <|
  Option.map Sum.inr (some (0:Int))

noncomputable def ref13_Validate_l3 (p0 : api_Smooth) (v3_47 : Int) : Option Int :=
  loop (fun (s : Int) => ref13_Validate_l3s p0 s) v3_47

noncomputable def ref13_Validate (p0 : api_Smooth) : Option Int :=
  let y1_2 := (ref13_MayAgg p0.Agg);
  let y1_11 := (ref09_May p0.W p0.Cap p0.Now);
  let y1_17 := (ref11_MayK p0.K);
  Option.bind (gd (!(((!y1_2) || (!y1_11)) || (!y1_17))) (ref13_Marks p0.Marks p0.Agg p0.W p0.Cap p0.Now p0.Seq)) fun y1_33 =>
  cond ((((!y1_2) || (!y1_11)) || (!y1_17)) || (!y1_33)) (
    some (2:Int)) <|
  ref13_Validate_l3 p0 (0:Int)

noncomputable def ref14_May (p0 : api_Mark) : Bool :=
  (((((((decide (p0.N ≥ (1:Int))) && (decide (p0.N ≤ (65536:Int)))) && (decide (p0.S ≥ (w64 ((IntKind.i64.wrap (0 - p0.N)) * (4096:Int)))))) && (decide (p0.S ≤ (w64 (p0.N * (4096:Int)))))) && (decide (p0.Q ≥ (0:Int)))) && (decide (p0.Q ≤ (w64 ((w64 (p0.N * (4096:Int))) * (4096:Int)))))) && (decide ((w64 (p0.S * p0.S)) ≤ (w64 (p0.N * p0.Q)))))

noncomputable def ref14_Close (p0 : api_Mark) (p1 : api_Mark) (p2 : Int) : Bool :=
  let y1_1 := (ref14_May p0);
  let y1_5 := (ref14_May p1);
  let y1_10 := (ref11_MayK p2);
  cond ((((!y1_1) || (!y1_5)) || (!y1_10)) || (decide ((w64 ((w64 ((6:Int) * p2)) * p1.N)) < (w64 ((w64 ((w64 ((6:Int) * p2)) - (1:Int))) * p0.N))))) (
    false) <|
  let y4_7 := (ref02_Product (wu64 (w64 ((w64 (p1.N * p1.Q)) - (w64 (p1.S * p1.S))))) (wu64 (w64 ((w64 ((6:Int) * p2)) * p0.N))));
  let y4_16 := (ref02_Product (wu64 (w64 ((w64 (p0.N * p0.Q)) - (w64 (p0.S * p0.S))))) (wu64 (w64 ((w64 ((w64 ((6:Int) * p2)) - (1:Int))) * p1.N))));
  let y4_17 := (ref02_Compare y4_7 y4_16);
  (decide (y4_17 ≥ (0:Int)))

noncomputable def ref14_Validate_l3s (p0 : api_Spread) (v3_3 : Int) : Option (Int ⊕ Int) :=
  cond (decide (v3_3 < (p0.Marks.length : Int))) (
    Option.bind (idx p0.Marks (w64 (v3_3 - (2:Int)))) fun x6_4 =>
    Option.bind (idx p0.Marks v3_3) fun x6_9 =>
    let y6_13 := (ref14_Close x6_4 x6_9 p0.K);
    cond y6_13 (
      some (.inr (2:Int))) <|
    some (.inl (w64 (v3_3 + (1:Int))))) <|
  Option.map Sum.inr (some (0:Int))

noncomputable def ref14_Validate_l3 (p0 : api_Spread) (v3_3 : Int) : Option Int :=
  loop (fun (s : Int) => ref14_Validate_l3s p0 s) v3_3

noncomputable def ref14_Validate (p0 : api_Spread) : Option Int :=
  let y1_6 := (ref09_May p0.W p0.Cap p0.Now);
  let y1_11 := (ref11_MayK p0.K);
  Option.bind (gd (!((!y1_6) || (!y1_11))) (ref13_Marks p0.Marks (4:Int) p0.W p0.Cap p0.Now p0.Seq)) fun y1_25 =>
  cond (((!y1_6) || (!y1_11)) || (!y1_25)) (
    some (2:Int)) <|
  ref14_Validate_l3 p0 (2:Int)

noncomputable def ref15_Validate_l3s (p0 : api_Poly) (v3_3 : Int) : Option (Int ⊕ Int) :=
  cond (decide (v3_3 ≤ p0.P)) (
    Option.bind (idx p0.Moments (w64 (v3_3 - (1:Int)))) fun x6_4 =>
    let y6_13 := (ref02_Of (wu64 (w64 ((w64 (p0.Now - p0.Land)) + (1:Int)))));
    Option.bind (ref02_Mul x6_4 y6_13) fun y6_14 =>
    Option.bind (idx p0.Moments v3_3) fun x7_3 =>
    Option.bind (idx p0.Moments (w64 (v3_3 - (1:Int)))) fun x7_9 =>
    let y7_11 := (ref02_Compare x7_3 x7_9);
    Option.bind (gd ((!(decide (y7_11 < (0:Int)))) && y6_14.2) (idx p0.Moments v3_3)) fun x7_19 =>
    let y7_22 := (ref02_Compare x7_19 y6_14.1);
    cond ((decide (y7_11 < (0:Int))) || (y6_14.2 && (decide (y7_22 > (0:Int))))) (
      some (.inr (2:Int))) <|
    some (.inl (w64 (v3_3 + (1:Int))))) <|
  Option.map Sum.inr (some (0:Int))

noncomputable def ref15_Validate_l3 (p0 : api_Poly) (v3_3 : Int) : Option Int :=
  loop (fun (s : Int) => ref15_Validate_l3s p0 s) v3_3

noncomputable def ref15_Validate (p0 : api_Poly) : Option Int :=
  let y1_11 := (ref06_Tick p0.Now);
  cond ((((((decide (p0.P < (0:Int))) || (decide (p0.P > (4:Int)))) || (!y1_11)) || (decide (p0.Land < (0:Int)))) || (decide (p0.Land > p0.Now))) || ((p0.Moments.length : Int) != (w64 (p0.P + (1:Int))))) (
    some (2:Int)) <|
  ref15_Validate_l3 p0 (1:Int)

noncomputable def ref16_Validate_l3s (p0 : api_Halve) (v3_24 : Int) : Option (Int ⊕ Int) :=
  cond (decide (v3_24 < (p0.Sums.length : Int))) (
    Option.bind (idx p0.Sums v3_24) fun x5_1 =>
    cond (((decide (x5_1 < (0:Int))) || (decide (x5_1 > (1099511627776:Int)))) || ((decide (v3_24 > p0.Now)) && (x5_1 != (0:Int)))) (
      some (.inr (2:Int))) <|
    some (.inl (w64 (v3_24 + (1:Int))))) <|
  Option.map Sum.inr (some (0:Int))

noncomputable def ref16_Validate_l3 (p0 : api_Halve) (v3_24 : Int) : Option Int :=
  loop (fun (s : Int) => ref16_Validate_l3s p0 s) v3_24

noncomputable def ref16_Validate (p0 : api_Halve) : Option Int :=
  let y1_13 := (ref06_Tick p0.Now);
  cond (((decide ((p0.Sums.length : Int) < (1:Int))) || (decide ((p0.Sums.length : Int) > (64:Int)))) || (!y1_13)) (
    some (2:Int)) <|
  ref16_Validate_l3 p0 (0:Int)

noncomputable def ref17_better (p0 : Bool) (p1 : Int) (p2 : Int) : Bool :=
  ((p0 && (decide (p1 > p2))) || ((!p0) && (decide (p1 < p2))))

noncomputable def ref17_Validate_l3s (p0 : api_Extreme) (v3_24 : Int) : Option (Int ⊕ Int) :=
  cond (decide (v3_24 < (p0.Items.length : Int))) (
    Option.bind (idx p0.Items v3_24) fun x5_1 =>
    let y6_6 := (ref06_Live p0.Now p0.W x5_1.T);
    let y6_11 := (ref09_Value x5_1.V);
    Option.bind (gd ((!((!y6_6) || (!y6_11))) && (decide (v3_24 > (0:Int)))) (idx p0.Items (w64 (v3_24 - (1:Int))))) fun x6_22 =>
    Option.bind (gd (((!((!y6_6) || (!y6_11))) && (decide (v3_24 > (0:Int)))) && (!(decide (x6_22.T ≥ x5_1.T)))) (idx p0.Items (w64 (v3_24 - (1:Int))))) fun x6_35 =>
    let y6_40 := (ref17_better p0.Max x6_35.V x5_1.V);
    cond (((!y6_6) || (!y6_11)) || ((decide (v3_24 > (0:Int))) && ((decide (x6_22.T ≥ x5_1.T)) || (!y6_40)))) (
      some (.inr (2:Int))) <|
    some (.inl (w64 (v3_24 + (1:Int))))) <|
  Option.map Sum.inr (some (0:Int))

noncomputable def ref17_Validate_l3 (p0 : api_Extreme) (v3_24 : Int) : Option Int :=
  loop (fun (s : Int) => ref17_Validate_l3s p0 s) v3_24

noncomputable def ref17_Validate (p0 : api_Extreme) : Option Int :=
  let y1_6 := (ref09_May p0.W p0.Cap p0.Now);
  cond ((!y1_6) || (decide ((p0.Items.length : Int) > p0.Cap))) (
    some (2:Int)) <|
  ref17_Validate_l3 p0 (0:Int)

noncomputable def ref18_Validate_l6s (p0 : api_Chain) (v6_77 : Int) : Option (Int ⊕ Int) :=
  cond (decide (v6_77 < (p0.Links.length : Int))) (
    Option.bind (idx p0.Links v6_77) fun x11_1 =>
    let y12_2 := (ref09_Value x11_1.V);
    Option.bind (gd ((!((!y12_2) || (decide (x11_1.I > p0.I)))) && (decide (v6_77 > (0:Int)))) (idx p0.Links (w64 (v6_77 - (1:Int))))) fun x12_21 =>
    Option.bind (gd (((!((!y12_2) || (decide (x11_1.I > p0.I)))) && (decide (v6_77 > (0:Int)))) && (!(decide (x11_1.I ≤ x12_21.I)))) (idx p0.Links (w64 (v6_77 - (1:Int))))) fun x12_32 =>
    cond (((!y12_2) || (decide (x11_1.I > p0.I))) || ((decide (v6_77 > (0:Int))) && ((decide (x11_1.I ≤ x12_21.I)) || (decide (x11_1.I > (w64 (x12_32.I + p0.W))))))) (
      some (.inr (2:Int))) <|
    some (.inl (w64 (v6_77 + (1:Int))))) <|
  Option.map Sum.inr (Option.bind (gd (!(decide (p0.Next ≤ p0.I))) (idx p0.Links (w64 ((p0.Links.length : Int) - (1:Int))))) fun x15_14 =>
  cond ((decide (p0.Next ≤ p0.I)) || (decide (p0.Next > (w64 (x15_14.I + p0.W))))) (
    some (2:Int)) <|
  some (0:Int))

noncomputable def ref18_Validate_l6 (p0 : api_Chain) (v6_77 : Int) : Option Int :=
  loop (fun (s : Int) => ref18_Validate_l6s p0 s) v6_77

noncomputable def ref18_Validate (p0 : api_Chain) : Option Int :=
  let y1_2 := (ref06_Window p0.W);
  cond ((((((!y1_2) || (decide (p0.Cap < (1:Int)))) || (decide (p0.Cap > (64:Int)))) || (decide (p0.I < (0:Int)))) || (decide (p0.I > (1099511627776:Int)))) || (decide ((p0.Links.length : Int) > p0.Cap))) (
    some (2:Int)) <|
  cond (p0.I == (0:Int)) (
    cond (((p0.Links.length : Int) != (0:Int)) || (p0.Next != (0:Int))) (
      some (2:Int)) <|
    some (0:Int)) <|
  Option.bind (gd (!((p0.Links.length : Int) == (0:Int))) (idx p0.Links (0:Int))) fun x7_7 =>
  Option.bind (gd (!(((p0.Links.length : Int) == (0:Int)) || (decide (x7_7.I ≤ (w64 (p0.I - p0.W)))))) (idx p0.Links (0:Int))) fun x7_20 =>
  cond ((((p0.Links.length : Int) == (0:Int)) || (decide (x7_7.I ≤ (w64 (p0.I - p0.W))))) || (decide (x7_20.I < (1:Int)))) (
    some (2:Int)) <|
  ref18_Validate_l6 p0 (0:Int)

noncomputable def ref19_Validate_l3s (p0 : api_Sample) (v3_19 : Int) : Option (Int ⊕ Int) :=
  cond (decide (v3_19 < (p0.Chains.length : Int))) (
    Option.bind (idx p0.Chains v3_19) fun x5_0 =>
    Option.bind (idx p0.Chains (0:Int)) fun x6_2 =>
    Option.bind (ref18_Validate x5_0) fun y7_1 =>
    cond ((((y7_1 != (0:Int)) || (x5_0.W != x6_2.W)) || (x5_0.Cap != x6_2.Cap)) || (x5_0.I != x6_2.I)) (
      some (.inr (2:Int))) <|
    some (.inl (w64 (v3_19 + (1:Int))))) <|
  Option.map Sum.inr (some (0:Int))

noncomputable def ref19_Validate_l3 (p0 : api_Sample) (v3_19 : Int) : Option Int :=
  loop (fun (s : Int) => ref19_Validate_l3s p0 s) v3_19

noncomputable def ref19_Validate (p0 : api_Sample) : Option Int :=
  cond ((decide ((p0.Chains.length : Int) < (1:Int))) || (decide ((p0.Chains.length : Int) > (16:Int)))) (
    some (2:Int)) <|
  ref19_Validate_l3 p0 (0:Int)

noncomputable def ref20_M (p0 : api_Summary) : Option Int :=
  ck (decide (p0.K ≠ 0)) <|
  some (imax (1:Int) (w64 (Int.tdiv p0.N p0.K)))

noncomputable def ref20_Validate_l3s (p0 : api_Summary) (v3_5 : Int) (v3_49 : Int) : Option ((Int × Int) ⊕ Int) :=
  cond (decide (v3_49 < (p0.Tuples.length : Int))) (
    Option.bind (idx p0.Tuples v3_49) fun x7_1 =>
    let y8_2 := (ref09_Value x7_1.V);
    Option.bind (gd (!(((((!y8_2) || (decide (x7_1.G < (1:Int)))) || (decide (x7_1.G > p0.N))) || (decide (x7_1.D < (0:Int)))) || (decide (x7_1.D > p0.N)))) (ref20_M p0)) fun y8_35 =>
    Option.bind (gd ((!((((((!y8_2) || (decide (x7_1.G < (1:Int)))) || (decide (x7_1.G > p0.N))) || (decide (x7_1.D < (0:Int)))) || (decide (x7_1.D > p0.N))) || (decide ((w64 (x7_1.G + x7_1.D)) > y8_35)))) && (decide (v3_49 > (0:Int)))) (idx p0.Tuples (w64 (v3_49 - (1:Int))))) fun x8_46 =>
    cond (((((((((!y8_2) || (decide (x7_1.G < (1:Int)))) || (decide (x7_1.G > p0.N))) || (decide (x7_1.D < (0:Int)))) || (decide (x7_1.D > p0.N))) || (decide ((w64 (x7_1.G + x7_1.D)) > y8_35))) || ((decide (v3_49 > (0:Int))) && (decide (x8_46.V > x7_1.V)))) || ((v3_49 == (0:Int)) && ((x7_1.G != (1:Int)) || (x7_1.D != (0:Int))))) || ((v3_49 == (w64 ((p0.Tuples.length : Int) - (1:Int)))) && (x7_1.D != (0:Int)))) (
      some (.inr (2:Int))) <|
    cond (decide ((w64 (v3_5 + x7_1.G)) > p0.N)) (
      some (.inr (2:Int))) <|
    some (.inl ((w64 (v3_5 + x7_1.G)), (w64 (v3_49 + (1:Int)))))) <|
  Option.map Sum.inr (cond (v3_5 != p0.N) (
    some (2:Int)) <|
  some (0:Int))

noncomputable def ref20_Validate_l3 (p0 : api_Summary) (v3_5 : Int) (v3_49 : Int) : Option Int :=
  loop (fun (s : (Int × Int)) => ref20_Validate_l3s p0 s.1 s.2) (v3_5, v3_49)

noncomputable def ref20_Validate (p0 : api_Summary) : Option Int :=
  let y1_4 := (ref20_New p0.K p0.Cap);
  cond (((((y1_4.2 != (0:Int)) || (decide (p0.N < (0:Int)))) || (decide (p0.N > (1099511627776:Int)))) || (decide ((p0.Tuples.length : Int) > p0.Cap))) || (!(((p0.Tuples.length : Int) == (0:Int)) == (p0.N == (0:Int))))) (
    some (2:Int)) <|
  ref20_Validate_l3 p0 (0:Int) (0:Int)

noncomputable def ref21_Validate_l3s (p0 : api_Ranks) (v3_27 : Int) : Option (Int ⊕ Int) :=
  cond (decide (v3_27 < (p0.Entries.length : Int))) (
    Option.bind (idx p0.Entries v3_27) fun x5_1 =>
    cond (((((decide (x5_1.Min < (1:Int))) || (decide (x5_1.Min > x5_1.Max))) || (decide (x5_1.Max > p0.N))) || ((v3_27 == (0:Int)) && (x5_1.Max != (1:Int)))) || ((v3_27 == (w64 ((p0.Entries.length : Int) - (1:Int)))) && (x5_1.Min != p0.N))) (
      some (.inr (2:Int))) <|
    cond (decide (v3_27 > (0:Int))) (
      Option.bind (idx p0.Entries (w64 (v3_27 - (1:Int)))) fun x9_4 =>
      cond (((decide (x9_4.V > x5_1.V)) || (decide (x9_4.Min ≥ x5_1.Min))) || (decide (x9_4.Max ≥ x5_1.Max))) (
        some (.inr (2:Int))) <|
      some (.inl (w64 (v3_27 + (1:Int))))) <|
    some (.inl (w64 (v3_27 + (1:Int))))) <|
  Option.map Sum.inr (some (0:Int))

noncomputable def ref21_Validate_l3 (p0 : api_Ranks) (v3_27 : Int) : Option Int :=
  loop (fun (s : Int) => ref21_Validate_l3s p0 s) v3_27

noncomputable def ref21_Validate (p0 : api_Ranks) : Option Int :=
  cond (((decide (p0.N < (0:Int))) || (decide (p0.N > (1099511627776:Int)))) || (!(((p0.Entries.length : Int) == (0:Int)) == (p0.N == (0:Int))))) (
    some (2:Int)) <|
  ref21_Validate_l3 p0 (0:Int)

noncomputable def ref21_Gap_l3s (p0 : api_Ranks) (v3_3 : Int) (v3_4 : Int) : Option ((Int × Int) ⊕ Int) :=
  cond (decide (v3_4 < (p0.Entries.length : Int))) (
    Option.bind (idx p0.Entries v3_4) fun x7_4 =>
    Option.bind (idx p0.Entries (w64 (v3_4 - (1:Int)))) fun x7_11 =>
    some (.inl ((imax v3_3 (w64 (x7_4.Max - x7_11.Min))), (w64 (v3_4 + (1:Int)))))) <|
  Option.map Sum.inr (some v3_3)

noncomputable def ref21_Gap_l3 (p0 : api_Ranks) (v3_3 : Int) (v3_4 : Int) : Option Int :=
  loop (fun (s : (Int × Int)) => ref21_Gap_l3s p0 s.1 s.2) (v3_3, v3_4)

noncomputable def ref21_Gap (p0 : api_Ranks) : Option Int :=
  Option.bind (ref21_Validate p0) fun y1_1 =>
  cond ((y1_1 != (0:Int)) || (p0.N == (0:Int))) (
    some (0:Int)) <|
  ref21_Gap_l3 p0 (1:Int) (1:Int)

noncomputable def ref22_Allowed_l3s (p0 : Int) (p1 : Int) (v3_5 : Int) (v3_6 : Int) : Option ((Int × Int) ⊕ Int) :=
  cond (decide (v3_6 ≤ p0)) (
    ck (decide (0 ≤ (wu64 v3_6))) <|
    cond (decide ((ishl .i64 (1:Int) (wu64 v3_6)) > (w64 (p1 + (1:Int))))) (
      ck (decide (p1 ≠ 0)) <|
      some (.inl ((w64 ((w64 ((2:Int) * v3_5)) + (w64 (Int.tdiv (w64 ((w64 ((w64 ((ishl .i64 (1:Int) (wu64 v3_6)) - (1:Int))) + p1)) - (1:Int))) p1)))), (w64 (v3_6 + (1:Int)))))) <|
    some (.inl (v3_5, (w64 (v3_6 + (1:Int)))))) <|
  Option.map Sum.inr (some v3_5)

noncomputable def ref22_Allowed_l3 (p0 : Int) (p1 : Int) (v3_5 : Int) (v3_6 : Int) : Option Int :=
  loop (fun (s : (Int × Int)) => ref22_Allowed_l3s p0 p1 s.1 s.2) (v3_5, v3_6)

noncomputable def ref22_Allowed (p0 : Int) (p1 : Int) : Option Int :=
  cond ((((decide (p0 < (0:Int))) || (decide (p0 > (30:Int)))) || (decide (p1 < (1:Int)))) || (decide (p1 > (65536:Int)))) (
    some (-1:Int)) <|
  ref22_Allowed_l3 p0 p1 (0:Int) (0:Int)

noncomputable def ref22_Plain_l2s (p0 : (List api_Block)) (v2_3 : (List api_Bucket)) (v2_8 : Int) : Option (((List api_Bucket) × Int) ⊕ (List api_Bucket)) :=
  cond (decide (v2_8 < (p0.length : Int))) (
    Option.bind (idx p0 v2_8) fun x4_0 =>
    ck (decide ((v2_3.length + [(api_Bucket.mk x4_0.T x4_0.Level)].length) * 16 ≤ 140737488355328)) <|
    some (.inl ((v2_3 ++ [(api_Bucket.mk x4_0.T x4_0.Level)]), (w64 (v2_8 + (1:Int)))))) <|
  Option.map Sum.inr (some v2_3)

noncomputable def ref22_Plain_l2 (p0 : (List api_Block)) (v2_3 : (List api_Bucket)) (v2_8 : Int) : Option (List api_Bucket) :=
  loop (fun (s : ((List api_Bucket) × Int)) => ref22_Plain_l2s p0 s.1 s.2) (v2_3, v2_8)

noncomputable def ref22_Plain (p0 : (List api_Block)) : Option (List api_Bucket) :=
  ref22_Plain_l2 p0 ([] : List api_Bucket) (0:Int)

noncomputable def ref22_Total (p0 : (List api_Block)) : Option Int :=
  Option.bind (ref22_Plain p0) fun y1_1 =>
  Option.bind (ref10_Total y1_1) fun y1_2 =>
  some y1_2

noncomputable def ref22_Valid_l3s (p0 : (List api_Block)) (p2 : Int) (v3_27 : Int) : Option (Int ⊕ Bool) :=
  cond (decide (v3_27 < (p0.length : Int))) (
    Option.bind (idx p0 v3_27) fun x5_0 =>
    Option.bind (ref21_Validate x5_0.Ranks) fun y7_2 =>
    ck (!(!(y7_2 != (0:Int))) || (decide (0 ≤ (wu64 x5_0.Level)))) <|
    cond (((y7_2 != (0:Int)) || (x5_0.Ranks.N != (ishl .i64 (1:Int) (wu64 x5_0.Level)))) || (decide ((x5_0.Ranks.Entries.length : Int) > (w64 (p2 + (1:Int)))))) (
      some (.inr false)) <|
    Option.bind (idx x5_0.Ranks.Entries (0:Int)) fun x9_3 =>
    Option.bind (idx x5_0.Ranks.Entries (w64 ((x5_0.Ranks.Entries.length : Int) - (1:Int)))) fun x9_11 =>
    let y10_1 := (ref09_Value x9_3.V);
    let y10_5 := (ref09_Value x9_11.V);
    Option.bind (gd (!((((!y10_1) || (!y10_5)) || (decide (x5_0.Last < x9_3.V))) || (decide (x5_0.Last > x9_11.V)))) (ref21_Gap x5_0.Ranks)) fun y10_23 =>
    Option.bind (gd (!((((!y10_1) || (!y10_5)) || (decide (x5_0.Last < x9_3.V))) || (decide (x5_0.Last > x9_11.V)))) (ref22_Allowed x5_0.Level p2)) fun y10_28 =>
    cond (((((!y10_1) || (!y10_5)) || (decide (x5_0.Last < x9_3.V))) || (decide (x5_0.Last > x9_11.V))) || (decide ((w64 (y10_23 - (1:Int))) > y10_28))) (
      some (.inr false)) <|
    some (.inl (w64 (v3_27 + (1:Int))))) <|
  Option.map Sum.inr (some true)

noncomputable def ref22_Valid_l3 (p0 : (List api_Block)) (p2 : Int) (v3_27 : Int) : Option Bool :=
  loop (fun (s : Int) => ref22_Valid_l3s p0 p2 s) v3_27

noncomputable def ref22_Valid (p0 : (List api_Block)) (p1 : Int) (p2 : Int) : Option Bool :=
  Option.bind (gd (!((decide (p2 < (1:Int))) || (decide (p2 > (65536:Int))))) (ref22_Plain p0)) fun y1_8 =>
  Option.bind (gd (!((decide (p2 < (1:Int))) || (decide (p2 > (65536:Int))))) (ref10_Valid y1_8 p1)) fun y1_10 =>
  cond (((decide (p2 < (1:Int))) || (decide (p2 > (65536:Int)))) || (!y1_10)) (
    some false) <|
  ref22_Valid_l3 p0 p2 (0:Int)

noncomputable def ref23_Size (p0 : Int) (p1 : Int) : Option Int :=
  let y1_1 := (ref11_MayK p0);
  cond (((!y1_1) || (decide (p1 < (1:Int)))) || (decide (p1 > (65536:Int)))) (
    some (0:Int)) <|
  Option.bind (ref01_Bits p1) fun y3_3 =>
  some (w64 ((w64 ((2:Int) * p0)) * (w64 (y3_3 + (2:Int)))))

noncomputable def ref23_Validate_l3s (p0 : api_Quantile) (v3_44 : Int) : Option (Int ⊕ Int) :=
  cond (decide (v3_44 < (p0.Blocks.length : Int))) (
    Option.bind (idx p0.Blocks v3_44) fun x5_0 =>
    let y6_6 := (ref06_Live p0.Now p0.W x5_0.T);
    cond (!y6_6) (
      some (.inr (2:Int))) <|
    some (.inl (w64 (v3_44 + (1:Int))))) <|
  Option.map Sum.inr (some (0:Int))

noncomputable def ref23_Validate_l3 (p0 : api_Quantile) (v3_44 : Int) : Option Int :=
  loop (fun (s : Int) => ref23_Validate_l3s p0 s) v3_44

noncomputable def ref23_Validate (p0 : api_Quantile) : Option Int :=
  let y1_6 := (ref09_May p0.W p0.Cap p0.Now);
  let y1_11 := (ref11_MayK p0.K);
  Option.bind (gd (!((!y1_6) || (!y1_11))) (ref23_Size p0.K p0.Cap)) fun y1_24 =>
  Option.bind (gd (!((!y1_6) || (!y1_11))) (ref22_Valid p0.Blocks (w64 ((2:Int) * p0.K)) y1_24)) fun y1_25 =>
  Option.bind (gd (!(((!y1_6) || (!y1_11)) || (!y1_25))) (ref22_Total p0.Blocks)) fun y1_31 =>
  cond ((((!y1_6) || (!y1_11)) || (!y1_25)) || (decide (y1_31 > p0.Cap))) (
    some (2:Int)) <|
  ref23_Validate_l3 p0 (0:Int)

noncomputable def ref25_Alone_j2 (p0 : api_Synopsis) (j2_b1x3_8 : Int) (j2_b1x3_9 : Int) (j2_b1x3_10 : Int) (j2_b1x3_11 : (List api_Item)) (j2_b1x3_12 : Int) (j2_b1x3_13 : Int) (j2_b1x3_14 : Int) (j2_b1x3_15 : Int) (j2_b1x3_16 : (List api_Bucket)) (j2_b1x3_17 : Int) (j2_b1x3_18 : Int) (j2_b1x3_19 : Int) (j2_b1x3_20 : Int) (j2_b1x3_21 : Int) (j2_b1x3_22 : (List api_Bucket)) (j2_b1x3_23 : Int) (j2_b1x3_24 : Int) (j2_b1x3_25 : Int) (j2_b1x3_26 : Int) (j2_b1x3_27 : Int) (j2_b1x3_28 : Int) (j2_b1x3_29 : (List api_Mark)) (j2_b1x3_30 : Int) (j2_b1x3_31 : Int) (j2_b1x3_32 : Int) (j2_b1x3_33 : Int) (j2_b1x3_34 : Int) (j2_b1x3_35 : (List api_Mark)) (j2_b1x3_36 : Int) (j2_b1x3_37 : Int) (j2_b1x3_38 : Int) (j2_b1x3_39 : (List api_Wide)) (j2_b1x3_40 : Int) (j2_b1x3_41 : (List Int)) (j2_b1x3_42 : Bool) (j2_b1x3_43 : Int) (j2_b1x3_44 : Int) (j2_b1x3_45 : Int) (j2_b1x3_46 : (List api_Item)) (j2_b1x3_47 : (List api_Chain)) (j2_b1x3_48 : Int) (j2_b1x3_49 : Int) (j2_b1x3_50 : Int) (j2_b1x3_51 : (List api_Tuple)) (j2_b1x3_52 : Int) (j2_b1x3_53 : Int) (j2_b1x3_54 : Int) (j2_b1x3_55 : Int) (j2_b1x3_56 : (List api_Block)) : api_Synopsis :=
  (api_Synopsis.mk p0.Config (api_Recent.mk j2_b1x3_8 j2_b1x3_9 j2_b1x3_10 j2_b1x3_11) (api_Count.mk j2_b1x3_12 j2_b1x3_13 j2_b1x3_14 j2_b1x3_15 j2_b1x3_16) (api_Sum.mk j2_b1x3_17 j2_b1x3_18 j2_b1x3_19 j2_b1x3_20 j2_b1x3_21 j2_b1x3_22) (api_Smooth.mk j2_b1x3_23 j2_b1x3_24 j2_b1x3_25 j2_b1x3_26 j2_b1x3_27 j2_b1x3_28 j2_b1x3_29) (api_Spread.mk j2_b1x3_30 j2_b1x3_31 j2_b1x3_32 j2_b1x3_33 j2_b1x3_34 j2_b1x3_35) (api_Poly.mk j2_b1x3_36 j2_b1x3_37 j2_b1x3_38 j2_b1x3_39) (api_Halve.mk j2_b1x3_40 j2_b1x3_41) (api_Extreme.mk j2_b1x3_42 j2_b1x3_43 j2_b1x3_44 j2_b1x3_45 j2_b1x3_46) (api_Sample.mk j2_b1x3_47) (api_Summary.mk j2_b1x3_48 j2_b1x3_49 j2_b1x3_50 j2_b1x3_51) (api_Quantile.mk j2_b1x3_52 j2_b1x3_53 j2_b1x3_54 j2_b1x3_55 j2_b1x3_56))

noncomputable def ref25_Alone (p0 : api_Synopsis) : api_Synopsis :=
  cond (p0.Config.Kind == (1:Int)) (
    ref25_Alone_j2 p0 p0.Recent.W p0.Recent.Cap p0.Recent.Now p0.Recent.Items (0:Int) (0:Int) (0:Int) (0:Int) ([] : List api_Bucket) (0:Int) (0:Int) (0:Int) (0:Int) (0:Int) ([] : List api_Bucket) (0:Int) (0:Int) (0:Int) (0:Int) (0:Int) (0:Int) ([] : List api_Mark) (0:Int) (0:Int) (0:Int) (0:Int) (0:Int) ([] : List api_Mark) (0:Int) (0:Int) (0:Int) ([] : List api_Wide) (0:Int) ([] : List Int) false (0:Int) (0:Int) (0:Int) ([] : List api_Item) ([] : List api_Chain) (0:Int) (0:Int) (0:Int) ([] : List api_Tuple) (0:Int) (0:Int) (0:Int) (0:Int) ([] : List api_Block)) <|
  cond (p0.Config.Kind == (2:Int)) (
    ref25_Alone_j2 p0 (0:Int) (0:Int) (0:Int) ([] : List api_Item) p0.Count.W p0.Count.K p0.Count.Cap p0.Count.Now p0.Count.Buckets (0:Int) (0:Int) (0:Int) (0:Int) (0:Int) ([] : List api_Bucket) (0:Int) (0:Int) (0:Int) (0:Int) (0:Int) (0:Int) ([] : List api_Mark) (0:Int) (0:Int) (0:Int) (0:Int) (0:Int) ([] : List api_Mark) (0:Int) (0:Int) (0:Int) ([] : List api_Wide) (0:Int) ([] : List Int) false (0:Int) (0:Int) (0:Int) ([] : List api_Item) ([] : List api_Chain) (0:Int) (0:Int) (0:Int) ([] : List api_Tuple) (0:Int) (0:Int) (0:Int) (0:Int) ([] : List api_Block)) <|
  cond (p0.Config.Kind == (3:Int)) (
    ref25_Alone_j2 p0 (0:Int) (0:Int) (0:Int) ([] : List api_Item) (0:Int) (0:Int) (0:Int) (0:Int) ([] : List api_Bucket) p0.Sum.W p0.Sum.K p0.Sum.Cap p0.Sum.Max p0.Sum.Now p0.Sum.Buckets (0:Int) (0:Int) (0:Int) (0:Int) (0:Int) (0:Int) ([] : List api_Mark) (0:Int) (0:Int) (0:Int) (0:Int) (0:Int) ([] : List api_Mark) (0:Int) (0:Int) (0:Int) ([] : List api_Wide) (0:Int) ([] : List Int) false (0:Int) (0:Int) (0:Int) ([] : List api_Item) ([] : List api_Chain) (0:Int) (0:Int) (0:Int) ([] : List api_Tuple) (0:Int) (0:Int) (0:Int) (0:Int) ([] : List api_Block)) <|
  cond (p0.Config.Kind == (4:Int)) (
    ref25_Alone_j2 p0 (0:Int) (0:Int) (0:Int) ([] : List api_Item) (0:Int) (0:Int) (0:Int) (0:Int) ([] : List api_Bucket) (0:Int) (0:Int) (0:Int) (0:Int) (0:Int) ([] : List api_Bucket) p0.Smooth.Agg p0.Smooth.W p0.Smooth.K p0.Smooth.Cap p0.Smooth.Now p0.Smooth.Seq p0.Smooth.Marks (0:Int) (0:Int) (0:Int) (0:Int) (0:Int) ([] : List api_Mark) (0:Int) (0:Int) (0:Int) ([] : List api_Wide) (0:Int) ([] : List Int) false (0:Int) (0:Int) (0:Int) ([] : List api_Item) ([] : List api_Chain) (0:Int) (0:Int) (0:Int) ([] : List api_Tuple) (0:Int) (0:Int) (0:Int) (0:Int) ([] : List api_Block)) <|
  cond (p0.Config.Kind == (5:Int)) (
    ref25_Alone_j2 p0 (0:Int) (0:Int) (0:Int) ([] : List api_Item) (0:Int) (0:Int) (0:Int) (0:Int) ([] : List api_Bucket) (0:Int) (0:Int) (0:Int) (0:Int) (0:Int) ([] : List api_Bucket) (0:Int) (0:Int) (0:Int) (0:Int) (0:Int) (0:Int) ([] : List api_Mark) p0.Spread.W p0.Spread.K p0.Spread.Cap p0.Spread.Now p0.Spread.Seq p0.Spread.Marks (0:Int) (0:Int) (0:Int) ([] : List api_Wide) (0:Int) ([] : List Int) false (0:Int) (0:Int) (0:Int) ([] : List api_Item) ([] : List api_Chain) (0:Int) (0:Int) (0:Int) ([] : List api_Tuple) (0:Int) (0:Int) (0:Int) (0:Int) ([] : List api_Block)) <|
  cond (p0.Config.Kind == (6:Int)) (
    ref25_Alone_j2 p0 (0:Int) (0:Int) (0:Int) ([] : List api_Item) (0:Int) (0:Int) (0:Int) (0:Int) ([] : List api_Bucket) (0:Int) (0:Int) (0:Int) (0:Int) (0:Int) ([] : List api_Bucket) (0:Int) (0:Int) (0:Int) (0:Int) (0:Int) (0:Int) ([] : List api_Mark) (0:Int) (0:Int) (0:Int) (0:Int) (0:Int) ([] : List api_Mark) p0.Poly.P p0.Poly.Land p0.Poly.Now p0.Poly.Moments (0:Int) ([] : List Int) false (0:Int) (0:Int) (0:Int) ([] : List api_Item) ([] : List api_Chain) (0:Int) (0:Int) (0:Int) ([] : List api_Tuple) (0:Int) (0:Int) (0:Int) (0:Int) ([] : List api_Block)) <|
  cond (p0.Config.Kind == (7:Int)) (
    ref25_Alone_j2 p0 (0:Int) (0:Int) (0:Int) ([] : List api_Item) (0:Int) (0:Int) (0:Int) (0:Int) ([] : List api_Bucket) (0:Int) (0:Int) (0:Int) (0:Int) (0:Int) ([] : List api_Bucket) (0:Int) (0:Int) (0:Int) (0:Int) (0:Int) (0:Int) ([] : List api_Mark) (0:Int) (0:Int) (0:Int) (0:Int) (0:Int) ([] : List api_Mark) (0:Int) (0:Int) (0:Int) ([] : List api_Wide) p0.Halve.Now p0.Halve.Sums false (0:Int) (0:Int) (0:Int) ([] : List api_Item) ([] : List api_Chain) (0:Int) (0:Int) (0:Int) ([] : List api_Tuple) (0:Int) (0:Int) (0:Int) (0:Int) ([] : List api_Block)) <|
  cond (p0.Config.Kind == (8:Int)) (
    ref25_Alone_j2 p0 (0:Int) (0:Int) (0:Int) ([] : List api_Item) (0:Int) (0:Int) (0:Int) (0:Int) ([] : List api_Bucket) (0:Int) (0:Int) (0:Int) (0:Int) (0:Int) ([] : List api_Bucket) (0:Int) (0:Int) (0:Int) (0:Int) (0:Int) (0:Int) ([] : List api_Mark) (0:Int) (0:Int) (0:Int) (0:Int) (0:Int) ([] : List api_Mark) (0:Int) (0:Int) (0:Int) ([] : List api_Wide) (0:Int) ([] : List Int) p0.Extreme.Max p0.Extreme.W p0.Extreme.Cap p0.Extreme.Now p0.Extreme.Items ([] : List api_Chain) (0:Int) (0:Int) (0:Int) ([] : List api_Tuple) (0:Int) (0:Int) (0:Int) (0:Int) ([] : List api_Block)) <|
  cond (p0.Config.Kind == (9:Int)) (
    ref25_Alone_j2 p0 (0:Int) (0:Int) (0:Int) ([] : List api_Item) (0:Int) (0:Int) (0:Int) (0:Int) ([] : List api_Bucket) (0:Int) (0:Int) (0:Int) (0:Int) (0:Int) ([] : List api_Bucket) (0:Int) (0:Int) (0:Int) (0:Int) (0:Int) (0:Int) ([] : List api_Mark) (0:Int) (0:Int) (0:Int) (0:Int) (0:Int) ([] : List api_Mark) (0:Int) (0:Int) (0:Int) ([] : List api_Wide) (0:Int) ([] : List Int) false (0:Int) (0:Int) (0:Int) ([] : List api_Item) p0.Sample.Chains (0:Int) (0:Int) (0:Int) ([] : List api_Tuple) (0:Int) (0:Int) (0:Int) (0:Int) ([] : List api_Block)) <|
  cond (p0.Config.Kind == (10:Int)) (
    ref25_Alone_j2 p0 (0:Int) (0:Int) (0:Int) ([] : List api_Item) (0:Int) (0:Int) (0:Int) (0:Int) ([] : List api_Bucket) (0:Int) (0:Int) (0:Int) (0:Int) (0:Int) ([] : List api_Bucket) (0:Int) (0:Int) (0:Int) (0:Int) (0:Int) (0:Int) ([] : List api_Mark) (0:Int) (0:Int) (0:Int) (0:Int) (0:Int) ([] : List api_Mark) (0:Int) (0:Int) (0:Int) ([] : List api_Wide) (0:Int) ([] : List Int) false (0:Int) (0:Int) (0:Int) ([] : List api_Item) ([] : List api_Chain) p0.Summary.K p0.Summary.Cap p0.Summary.N p0.Summary.Tuples (0:Int) (0:Int) (0:Int) (0:Int) ([] : List api_Block)) <|
  cond (p0.Config.Kind == (11:Int)) (
    ref25_Alone_j2 p0 (0:Int) (0:Int) (0:Int) ([] : List api_Item) (0:Int) (0:Int) (0:Int) (0:Int) ([] : List api_Bucket) (0:Int) (0:Int) (0:Int) (0:Int) (0:Int) ([] : List api_Bucket) (0:Int) (0:Int) (0:Int) (0:Int) (0:Int) (0:Int) ([] : List api_Mark) (0:Int) (0:Int) (0:Int) (0:Int) (0:Int) ([] : List api_Mark) (0:Int) (0:Int) (0:Int) ([] : List api_Wide) (0:Int) ([] : List Int) false (0:Int) (0:Int) (0:Int) ([] : List api_Item) ([] : List api_Chain) (0:Int) (0:Int) (0:Int) ([] : List api_Tuple) p0.Quantile.W p0.Quantile.K p0.Quantile.Cap p0.Quantile.Now p0.Quantile.Blocks) <|
  ref25_Alone_j2 p0 (0:Int) (0:Int) (0:Int) ([] : List api_Item) (0:Int) (0:Int) (0:Int) (0:Int) ([] : List api_Bucket) (0:Int) (0:Int) (0:Int) (0:Int) (0:Int) ([] : List api_Bucket) (0:Int) (0:Int) (0:Int) (0:Int) (0:Int) (0:Int) ([] : List api_Mark) (0:Int) (0:Int) (0:Int) (0:Int) (0:Int) ([] : List api_Mark) (0:Int) (0:Int) (0:Int) ([] : List api_Wide) (0:Int) ([] : List Int) false (0:Int) (0:Int) (0:Int) ([] : List api_Item) ([] : List api_Chain) (0:Int) (0:Int) (0:Int) ([] : List api_Tuple) (0:Int) (0:Int) (0:Int) (0:Int) ([] : List api_Block)

noncomputable def ref25_made (p0 : api_Synopsis) : Option Bool :=
  cond (p0.Config.Kind == (1:Int)) (
    Option.bind (ref09_Validate p0.Recent) fun y4_2 =>
    some (((y4_2 == (0:Int)) && (p0.Recent.W == p0.Config.W)) && (p0.Recent.Cap == p0.Config.Cap))) <|
  cond (p0.Config.Kind == (2:Int)) (
    Option.bind (ref11_Validate p0.Count) fun y6_2 =>
    some ((((y6_2 == (0:Int)) && (p0.Count.W == p0.Config.W)) && (p0.Count.K == p0.Config.K)) && (p0.Count.Cap == p0.Config.Cap))) <|
  cond (p0.Config.Kind == (3:Int)) (
    Option.bind (ref12_Validate p0.Sum) fun y8_2 =>
    some (((((y8_2 == (0:Int)) && (p0.Sum.W == p0.Config.W)) && (p0.Sum.K == p0.Config.K)) && (p0.Sum.Cap == p0.Config.Cap)) && (p0.Sum.Max == p0.Config.Max))) <|
  cond (p0.Config.Kind == (4:Int)) (
    Option.bind (ref13_Validate p0.Smooth) fun y10_2 =>
    some (((((y10_2 == (0:Int)) && (p0.Smooth.Agg == p0.Config.Agg)) && (p0.Smooth.W == p0.Config.W)) && (p0.Smooth.K == p0.Config.K)) && (p0.Smooth.Cap == p0.Config.Cap))) <|
  cond (p0.Config.Kind == (5:Int)) (
    Option.bind (ref14_Validate p0.Spread) fun y12_2 =>
    some ((((y12_2 == (0:Int)) && (p0.Spread.W == p0.Config.W)) && (p0.Spread.K == p0.Config.K)) && (p0.Spread.Cap == p0.Config.Cap))) <|
  cond (p0.Config.Kind == (6:Int)) (
    Option.bind (ref15_Validate p0.Poly) fun y14_2 =>
    some ((y14_2 == (0:Int)) && (p0.Poly.P == p0.Config.P))) <|
  cond (p0.Config.Kind == (7:Int)) (
    Option.bind (ref16_Validate p0.Halve) fun y16_2 =>
    some ((y16_2 == (0:Int)) && ((p0.Halve.Sums.length : Int) == p0.Config.W))) <|
  cond (p0.Config.Kind == (8:Int)) (
    Option.bind (ref17_Validate p0.Extreme) fun y18_2 =>
    some ((((y18_2 == (0:Int)) && (p0.Extreme.Max == (p0.Config.Max == (1:Int)))) && (p0.Extreme.W == p0.Config.W)) && (p0.Extreme.Cap == p0.Config.Cap))) <|
  cond (p0.Config.Kind == (9:Int)) (
    Option.bind (ref19_Validate p0.Sample) fun y20_2 =>
    Option.bind (gd ((y20_2 == (0:Int)) && ((p0.Sample.Chains.length : Int) == p0.Config.Chains)) (idx p0.Sample.Chains (0:Int))) fun x20_17 =>
    Option.bind (gd (((y20_2 == (0:Int)) && ((p0.Sample.Chains.length : Int) == p0.Config.Chains)) && (x20_17.W == p0.Config.W)) (idx p0.Sample.Chains (0:Int))) fun x20_28 =>
    some ((((y20_2 == (0:Int)) && ((p0.Sample.Chains.length : Int) == p0.Config.Chains)) && (x20_17.W == p0.Config.W)) && (x20_28.Cap == p0.Config.Cap))) <|
  cond (p0.Config.Kind == (10:Int)) (
    Option.bind (ref20_Validate p0.Summary) fun y22_2 =>
    some (((y22_2 == (0:Int)) && (p0.Summary.K == p0.Config.K)) && (p0.Summary.Cap == p0.Config.Cap))) <|
  cond (p0.Config.Kind == (11:Int)) (
    Option.bind (ref23_Validate p0.Quantile) fun y24_2 =>
    some ((((y24_2 == (0:Int)) && (p0.Quantile.W == p0.Config.W)) && (p0.Quantile.K == p0.Config.K)) && (p0.Quantile.Cap == p0.Config.Cap))) <|
  some false

noncomputable def ref25_Validate (p0 : api_Synopsis) : Option Int :=
  let y1_2 := (ref24_Validate p0.Config);
  Option.bind (gd (!(y1_2 != (0:Int))) (ref25_made p0)) fun y1_6 =>
  let y1_12 := (ref25_Alone p0);
  Option.bind (gd (!((y1_2 != (0:Int)) || (!y1_6))) (ref25_Same p0 y1_12)) fun y1_13 =>
  cond (((y1_2 != (0:Int)) || (!y1_6)) || (!y1_13)) (
    some (2:Int)) <|
  some (0:Int)

end Go.Win
