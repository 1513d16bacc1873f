/- The functions of the program and of the statements, as functions on plain data: made by program out of the translated code. -/
import Derived.Test.YtmipeaidieflmaaGreatVc
set_option linter.unusedVariables false
namespace Go.Win
open Go.Vc Go.Dec
structure api_Entry where
 V:Int
 Min:Int
 Max:Int
 deriving Inhabited
def enc_api_Entry (p:api_Entry):List AV:= [.int .i64 p.V, .int .i64 p.Min, .int .i64 p.Max]
def wf_api_Entry (p:api_Entry):Prop:=(wfI .i64) p.V∧(wfI .i64) p.Min∧(wfI .i64) p.Max
def wfU_api_Entry (p:api_Entry):Prop:=(wfI .i64) p.V∧(wfI .i64) p.Min∧(wfI .i64) p.Max
structure api_Ranks where
 N:Int
 Entries:(List api_Entry)
 deriving Inhabited
def enc_api_Ranks (p:api_Ranks):List AV:= [.int .i64 p.N, .lst 3 false (List.map enc_api_Entry p.Entries)]
def wf_api_Ranks (p:api_Ranks):Prop:=(wfI .i64) p.N∧(wfL wf_api_Entry) p.Entries
def wfU_api_Ranks (p:api_Ranks):Prop:=(wfI .i64) p.N∧(wfLU wfU_api_Entry) p.Entries
structure api_Block where
 T:Int
 Last:Int
 Level:Int
 Ranks:api_Ranks
 deriving Inhabited
def enc_api_Block (p:api_Block):List AV:= [.int .i64 p.T, .int .i64 p.Last, .int .i64 p.Level, .int .i64 p.Ranks.N, .lst 3 false (List.map enc_api_Entry p.Ranks.Entries)]
def wf_api_Block (p:api_Block):Prop:=(wfI .i64) p.T∧(wfI .i64) p.Last∧(wfI .i64) p.Level∧wf_api_Ranks p.Ranks
def wfU_api_Block (p:api_Block):Prop:=(wfI .i64) p.T∧(wfI .i64) p.Last∧(wfI .i64) p.Level∧wfU_api_Ranks p.Ranks
structure api_Bucket where
 T:Int
 Level:Int
 deriving Inhabited
def enc_api_Bucket (p:api_Bucket):List AV:= [.int .i64 p.T, .int .i64 p.Level]
def wf_api_Bucket (p:api_Bucket):Prop:=(wfI .i64) p.T∧(wfI .i64) p.Level
def wfU_api_Bucket (p:api_Bucket):Prop:=(wfI .i64) p.T∧(wfI .i64) p.Level
structure api_Link where
 I:Int
 V:Int
 deriving Inhabited
def enc_api_Link (p:api_Link):List AV:= [.int .i64 p.I, .int .i64 p.V]
def wf_api_Link (p:api_Link):Prop:=(wfI .i64) p.I∧(wfI .i64) p.V
def wfU_api_Link (p:api_Link):Prop:=(wfI .i64) p.I∧(wfI .i64) p.V
structure api_Chain where
 W:Int
 Cap:Int
 I:Int
 Next:Int
 Links:(List api_Link)
 deriving Inhabited
def enc_api_Chain (p:api_Chain):List AV:= [.int .i64 p.W, .int .i64 p.Cap, .int .i64 p.I, .int .i64 p.Next, .lst 2 false (List.map enc_api_Link p.Links)]
def wf_api_Chain (p:api_Chain):Prop:=(wfI .i64) p.W∧(wfI .i64) p.Cap∧(wfI .i64) p.I∧(wfI .i64) p.Next∧(wfL wf_api_Link) p.Links
def wfU_api_Chain (p:api_Chain):Prop:=(wfI .i64) p.W∧(wfI .i64) p.Cap∧(wfI .i64) p.I∧(wfI .i64) p.Next∧(wfLU wfU_api_Link) p.Links
structure api_Config where
 Kind:Int
 Agg:Int
 W:Int
 K:Int
 Cap:Int
 P:Int
 Chains:Int
 Max:Int
 deriving Inhabited
def enc_api_Config (p:api_Config):List AV:= [.int .i64 p.Kind, .int .i64 p.Agg, .int .i64 p.W, .int .i64 p.K, .int .i64 p.Cap, .int .i64 p.P, .int .i64 p.Chains, .int .i64 p.Max]
def wf_api_Config (p:api_Config):Prop:=(wfI .i64) p.Kind∧(wfI .i64) p.Agg∧(wfI .i64) p.W∧(wfI .i64) p.K∧(wfI .i64) p.Cap∧(wfI .i64) p.P∧(wfI .i64) p.Chains∧(wfI .i64) p.Max
def wfU_api_Config (p:api_Config):Prop:=(wfI .i64) p.Kind∧(wfI .i64) p.Agg∧(wfI .i64) p.W∧(wfI .i64) p.K∧(wfI .i64) p.Cap∧(wfI .i64) p.P∧(wfI .i64) p.Chains∧(wfI .i64) p.Max
structure api_Count where
 W:Int
 K:Int
 Cap:Int
 Now:Int
 Buckets:(List api_Bucket)
 deriving Inhabited
def enc_api_Count (p:api_Count):List AV:= [.int .i64 p.W, .int .i64 p.K, .int .i64 p.Cap, .int .i64 p.Now, .lst 2 false (List.map enc_api_Bucket p.Buckets)]
def wf_api_Count (p:api_Count):Prop:=(wfI .i64) p.W∧(wfI .i64) p.K∧(wfI .i64) p.Cap∧(wfI .i64) p.Now∧(wfL wf_api_Bucket) p.Buckets
def wfU_api_Count (p:api_Count):Prop:=(wfI .i64) p.W∧(wfI .i64) p.K∧(wfI .i64) p.Cap∧(wfI .i64) p.Now∧(wfLU wfU_api_Bucket) p.Buckets
structure api_Item where
 T:Int
 V:Int
 deriving Inhabited
def enc_api_Item (p:api_Item):List AV:= [.int .i64 p.T, .int .i64 p.V]
def wf_api_Item (p:api_Item):Prop:=(wfI .i64) p.T∧(wfI .i64) p.V
def wfU_api_Item (p:api_Item):Prop:=(wfI .i64) p.T∧(wfI .i64) p.V
structure api_Extreme where
 Max:Bool
 W:Int
 Cap:Int
 Now:Int
 Items:(List api_Item)
 deriving Inhabited
def enc_api_Extreme (p:api_Extreme):List AV:= [.sb p.Max, .int .i64 p.W, .int .i64 p.Cap, .int .i64 p.Now, .lst 2 false (List.map enc_api_Item p.Items)]
def wf_api_Extreme (p:api_Extreme):Prop:=(fun _:Bool=>True) p.Max∧(wfI .i64) p.W∧(wfI .i64) p.Cap∧(wfI .i64) p.Now∧(wfL wf_api_Item) p.Items
def wfU_api_Extreme (p:api_Extreme):Prop:=(fun _:Bool=>True) p.Max∧(wfI .i64) p.W∧(wfI .i64) p.Cap∧(wfI .i64) p.Now∧(wfLU wfU_api_Item) p.Items
structure api_Halve where
 Now:Int
 Sums:(List Int)
 deriving Inhabited
def enc_api_Halve (p:api_Halve):List AV:= [.int .i64 p.Now, .lst 1 false (List.map (eI .i64) p.Sums)]
def wf_api_Halve (p:api_Halve):Prop:=(wfI .i64) p.Now∧(wfL (wfI .i64)) p.Sums
def wfU_api_Halve (p:api_Halve):Prop:=(wfI .i64) p.Now∧(wfLU (wfI .i64)) p.Sums
structure api_Wide where
 Hi:Int
 Lo:Int
 deriving Inhabited
def enc_api_Wide (p:api_Wide):List AV:= [.int .u64 p.Hi, .int .u64 p.Lo]
def wf_api_Wide (p:api_Wide):Prop:=(wfI .u64) p.Hi∧(wfI .u64) p.Lo
def wfU_api_Wide (p:api_Wide):Prop:=(wfI .u64) p.Hi∧(wfI .u64) p.Lo
structure api_Poly where
 P:Int
 Land:Int
 Now:Int
 Moments:(List api_Wide)
 deriving Inhabited
def enc_api_Poly (p:api_Poly):List AV:= [.int .i64 p.P, .int .i64 p.Land, .int .i64 p.Now, .lst 2 false (List.map enc_api_Wide p.Moments)]
def wf_api_Poly (p:api_Poly):Prop:=(wfI .i64) p.P∧(wfI .i64) p.Land∧(wfI .i64) p.Now∧(wfL wf_api_Wide) p.Moments
def wfU_api_Poly (p:api_Poly):Prop:=(wfI .i64) p.P∧(wfI .i64) p.Land∧(wfI .i64) p.Now∧(wfLU wfU_api_Wide) p.Moments
structure api_Quantile where
 W:Int
 K:Int
 Cap:Int
 Now:Int
 Blocks:(List api_Block)
 deriving Inhabited
def enc_api_Quantile (p:api_Quantile):List AV:= [.int .i64 p.W, .int .i64 p.K, .int .i64 p.Cap, .int .i64 p.Now, .lst 5 false (List.map enc_api_Block p.Blocks)]
def wf_api_Quantile (p:api_Quantile):Prop:=(wfI .i64) p.W∧(wfI .i64) p.K∧(wfI .i64) p.Cap∧(wfI .i64) p.Now∧(wfL wf_api_Block) p.Blocks
def wfU_api_Quantile (p:api_Quantile):Prop:=(wfI .i64) p.W∧(wfI .i64) p.K∧(wfI .i64) p.Cap∧(wfI .i64) p.Now∧(wfLU wfU_api_Block) p.Blocks
structure api_Recent where
 W:Int
 Cap:Int
 Now:Int
 Items:(List api_Item)
 deriving Inhabited
def enc_api_Recent (p:api_Recent):List AV:= [.int .i64 p.W, .int .i64 p.Cap, .int .i64 p.Now, .lst 2 false (List.map enc_api_Item p.Items)]
def wf_api_Recent (p:api_Recent):Prop:=(wfI .i64) p.W∧(wfI .i64) p.Cap∧(wfI .i64) p.Now∧(wfL wf_api_Item) p.Items
def wfU_api_Recent (p:api_Recent):Prop:=(wfI .i64) p.W∧(wfI .i64) p.Cap∧(wfI .i64) p.Now∧(wfLU wfU_api_Item) p.Items
structure api_Sample where
 Chains:(List api_Chain)
 deriving Inhabited
def enc_api_Sample (p:api_Sample):List AV:= [.lst 5 false (List.map enc_api_Chain p.Chains)]
def wf_api_Sample (p:api_Sample):Prop:=(wfL wf_api_Chain) p.Chains
def wfU_api_Sample (p:api_Sample):Prop:=(wfLU wfU_api_Chain) p.Chains
structure api_Mark where
 Seq:Int
 T:Int
 N:Int
 S:Int
 Q:Int
 Min:Int
 Max:Int
 deriving Inhabited
def enc_api_Mark (p:api_Mark):List AV:= [.int .i64 p.Seq, .int .i64 p.T, .int .i64 p.N, .int .i64 p.S, .int .i64 p.Q, .int .i64 p.Min, .int .i64 p.Max]
def wf_api_Mark (p:api_Mark):Prop:=(wfI .i64) p.Seq∧(wfI .i64) p.T∧(wfI .i64) p.N∧(wfI .i64) p.S∧(wfI .i64) p.Q∧(wfI .i64) p.Min∧(wfI .i64) p.Max
def wfU_api_Mark (p:api_Mark):Prop:=(wfI .i64) p.Seq∧(wfI .i64) p.T∧(wfI .i64) p.N∧(wfI .i64) p.S∧(wfI .i64) p.Q∧(wfI .i64) p.Min∧(wfI .i64) p.Max
structure api_Smooth where
 Agg:Int
 W:Int
 K:Int
 Cap:Int
 Now:Int
 Seq:Int
 Marks:(List api_Mark)
 deriving Inhabited
def enc_api_Smooth (p:api_Smooth):List AV:= [.int .i64 p.Agg, .int .i64 p.W, .int .i64 p.K, .int .i64 p.Cap, .int .i64 p.Now, .int .i64 p.Seq, .lst 7 false (List.map enc_api_Mark p.Marks)]
def wf_api_Smooth (p:api_Smooth):Prop:=(wfI .i64) p.Agg∧(wfI .i64) p.W∧(wfI .i64) p.K∧(wfI .i64) p.Cap∧(wfI .i64) p.Now∧(wfI .i64) p.Seq∧(wfL wf_api_Mark) p.Marks
def wfU_api_Smooth (p:api_Smooth):Prop:=(wfI .i64) p.Agg∧(wfI .i64) p.W∧(wfI .i64) p.K∧(wfI .i64) p.Cap∧(wfI .i64) p.Now∧(wfI .i64) p.Seq∧(wfLU wfU_api_Mark) p.Marks
structure api_Spread where
 W:Int
 K:Int
 Cap:Int
 Now:Int
 Seq:Int
 Marks:(List api_Mark)
 deriving Inhabited
def enc_api_Spread (p:api_Spread):List AV:= [.int .i64 p.W, .int .i64 p.K, .int .i64 p.Cap, .int .i64 p.Now, .int .i64 p.Seq, .lst 7 false (List.map enc_api_Mark p.Marks)]
def wf_api_Spread (p:api_Spread):Prop:=(wfI .i64) p.W∧(wfI .i64) p.K∧(wfI .i64) p.Cap∧(wfI .i64) p.Now∧(wfI .i64) p.Seq∧(wfL wf_api_Mark) p.Marks
def wfU_api_Spread (p:api_Spread):Prop:=(wfI .i64) p.W∧(wfI .i64) p.K∧(wfI .i64) p.Cap∧(wfI .i64) p.Now∧(wfI .i64) p.Seq∧(wfLU wfU_api_Mark) p.Marks
structure api_Sum where
 W:Int
 K:Int
 Cap:Int
 Max:Int
 Now:Int
 Buckets:(List api_Bucket)
 deriving Inhabited
def enc_api_Sum (p:api_Sum):List AV:= [.int .i64 p.W, .int .i64 p.K, .int .i64 p.Cap, .int .i64 p.Max, .int .i64 p.Now, .lst 2 false (List.map enc_api_Bucket p.Buckets)]
def wf_api_Sum (p:api_Sum):Prop:=(wfI .i64) p.W∧(wfI .i64) p.K∧(wfI .i64) p.Cap∧(wfI .i64) p.Max∧(wfI .i64) p.Now∧(wfL wf_api_Bucket) p.Buckets
def wfU_api_Sum (p:api_Sum):Prop:=(wfI .i64) p.W∧(wfI .i64) p.K∧(wfI .i64) p.Cap∧(wfI .i64) p.Max∧(wfI .i64) p.Now∧(wfLU wfU_api_Bucket) p.Buckets
structure api_Tuple where
 V:Int
 G:Int
 D:Int
 deriving Inhabited
def enc_api_Tuple (p:api_Tuple):List AV:= [.int .i64 p.V, .int .i64 p.G, .int .i64 p.D]
def wf_api_Tuple (p:api_Tuple):Prop:=(wfI .i64) p.V∧(wfI .i64) p.G∧(wfI .i64) p.D
def wfU_api_Tuple (p:api_Tuple):Prop:=(wfI .i64) p.V∧(wfI .i64) p.G∧(wfI .i64) p.D
structure api_Summary where
 K:Int
 Cap:Int
 N:Int
 Tuples:(List api_Tuple)
 deriving Inhabited
def enc_api_Summary (p:api_Summary):List AV:= [.int .i64 p.K, .int .i64 p.Cap, .int .i64 p.N, .lst 3 false (List.map enc_api_Tuple p.Tuples)]
def wf_api_Summary (p:api_Summary):Prop:=(wfI .i64) p.K∧(wfI .i64) p.Cap∧(wfI .i64) p.N∧(wfL wf_api_Tuple) p.Tuples
def wfU_api_Summary (p:api_Summary):Prop:=(wfI .i64) p.K∧(wfI .i64) p.Cap∧(wfI .i64) p.N∧(wfLU wfU_api_Tuple) p.Tuples
structure api_Synopsis where
 Config:api_Config
 Recent:api_Recent
 Count:api_Count
 Sum:api_Sum
 Smooth:api_Smooth
 Spread:api_Spread
 Poly:api_Poly
 Halve:api_Halve
 Extreme:api_Extreme
 Sample:api_Sample
 Summary:api_Summary
 Quantile:api_Quantile
 deriving Inhabited
def enc_api_Synopsis (p:api_Synopsis):List AV:= [.int .i64 p.Config.Kind, .int .i64 p.Config.Agg, .int .i64 p.Config.W, .int .i64 p.Config.K, .int .i64 p.Config.Cap, .int .i64 p.Config.P, .int .i64 p.Config.Chains, .int .i64 p.Config.Max, .int .i64 p.Recent.W, .int .i64 p.Recent.Cap, .int .i64 p.Recent.Now, .lst 2 false (List.map enc_api_Item p.Recent.Items), .int .i64 p.Count.W, .int .i64 p.Count.K, .int .i64 p.Count.Cap, .int .i64 p.Count.Now, .lst 2 false (List.map enc_api_Bucket p.Count.Buckets), .int .i64 p.Sum.W, .int .i64 p.Sum.K, .int .i64 p.Sum.Cap, .int .i64 p.Sum.Max, .int .i64 p.Sum.Now, .lst 2 false (List.map enc_api_Bucket p.Sum.Buckets), .int .i64 p.Smooth.Agg, .int .i64 p.Smooth.W, .int .i64 p.Smooth.K, .int .i64 p.Smooth.Cap, .int .i64 p.Smooth.Now, .int .i64 p.Smooth.Seq, .lst 7 false (List.map enc_api_Mark p.Smooth.Marks), .int .i64 p.Spread.W, .int .i64 p.Spread.K, .int .i64 p.Spread.Cap, .int .i64 p.Spread.Now, .int .i64 p.Spread.Seq, .lst 7 false (List.map enc_api_Mark p.Spread.Marks), .int .i64 p.Poly.P, .int .i64 p.Poly.Land, .int .i64 p.Poly.Now, .lst 2 false (List.map enc_api_Wide p.Poly.Moments), .int .i64 p.Halve.Now, .lst 1 false (List.map (eI .i64) p.Halve.Sums), .sb p.Extreme.Max, .int .i64 p.Extreme.W, .int .i64 p.Extreme.Cap, .int .i64 p.Extreme.Now, .lst 2 false (List.map enc_api_Item p.Extreme.Items), .lst 5 false (List.map enc_api_Chain p.Sample.Chains), .int .i64 p.Summary.K, .int .i64 p.Summary.Cap, .int .i64 p.Summary.N, .lst 3 false (List.map enc_api_Tuple p.Summary.Tuples), .int .i64 p.Quantile.W, .int .i64 p.Quantile.K, .int .i64 p.Quantile.Cap, .int .i64 p.Quantile.Now, .lst 5 false (List.map enc_api_Block p.Quantile.Blocks)]
def wf_api_Synopsis (p:api_Synopsis):Prop:=wf_api_Config p.Config∧wf_api_Recent p.Recent∧wf_api_Count p.Count∧wf_api_Sum p.Sum∧wf_api_Smooth p.Smooth∧wf_api_Spread p.Spread∧wf_api_Poly p.Poly∧wf_api_Halve p.Halve∧wf_api_Extreme p.Extreme∧wf_api_Sample p.Sample∧wf_api_Summary p.Summary∧wf_api_Quantile p.Quantile
def wfU_api_Synopsis (p:api_Synopsis):Prop:=wfU_api_Config p.Config∧wfU_api_Recent p.Recent∧wfU_api_Count p.Count∧wfU_api_Sum p.Sum∧wfU_api_Smooth p.Smooth∧wfU_api_Spread p.Spread∧wfU_api_Poly p.Poly∧wfU_api_Halve p.Halve∧wfU_api_Extreme p.Extreme∧wfU_api_Sample p.Sample∧wfU_api_Summary p.Summary∧wfU_api_Quantile p.Quantile
structure api_Record where
 ID:Int
 Synopsis:api_Synopsis
 deriving Inhabited
def enc_api_Record (p:api_Record):List AV:= [.int .i64 p.ID, .int .i64 p.Synopsis.Config.Kind, .int .i64 p.Synopsis.Config.Agg, .int .i64 p.Synopsis.Config.W, .int .i64 p.Synopsis.Config.K, .int .i64 p.Synopsis.Config.Cap, .int .i64 p.Synopsis.Config.P, .int .i64 p.Synopsis.Config.Chains, .int .i64 p.Synopsis.Config.Max, .int .i64 p.Synopsis.Recent.W, .int .i64 p.Synopsis.Recent.Cap, .int .i64 p.Synopsis.Recent.Now, .lst 2 false (List.map enc_api_Item p.Synopsis.Recent.Items), .int .i64 p.Synopsis.Count.W, .int .i64 p.Synopsis.Count.K, .int .i64 p.Synopsis.Count.Cap, .int .i64 p.Synopsis.Count.Now, .lst 2 false (List.map enc_api_Bucket p.Synopsis.Count.Buckets), .int .i64 p.Synopsis.Sum.W, .int .i64 p.Synopsis.Sum.K, .int .i64 p.Synopsis.Sum.Cap, .int .i64 p.Synopsis.Sum.Max, .int .i64 p.Synopsis.Sum.Now, .lst 2 false (List.map enc_api_Bucket p.Synopsis.Sum.Buckets), .int .i64 p.Synopsis.Smooth.Agg, .int .i64 p.Synopsis.Smooth.W, .int .i64 p.Synopsis.Smooth.K, .int .i64 p.Synopsis.Smooth.Cap, .int .i64 p.Synopsis.Smooth.Now, .int .i64 p.Synopsis.Smooth.Seq, .lst 7 false (List.map enc_api_Mark p.Synopsis.Smooth.Marks), .int .i64 p.Synopsis.Spread.W, .int .i64 p.Synopsis.Spread.K, .int .i64 p.Synopsis.Spread.Cap, .int .i64 p.Synopsis.Spread.Now, .int .i64 p.Synopsis.Spread.Seq, .lst 7 false (List.map enc_api_Mark p.Synopsis.Spread.Marks), .int .i64 p.Synopsis.Poly.P, .int .i64 p.Synopsis.Poly.Land, .int .i64 p.Synopsis.Poly.Now, .lst 2 false (List.map enc_api_Wide p.Synopsis.Poly.Moments), .int .i64 p.Synopsis.Halve.Now, .lst 1 false (List.map (eI .i64) p.Synopsis.Halve.Sums), .sb p.Synopsis.Extreme.Max, .int .i64 p.Synopsis.Extreme.W, .int .i64 p.Synopsis.Extreme.Cap, .int .i64 p.Synopsis.Extreme.Now, .lst 2 false (List.map enc_api_Item p.Synopsis.Extreme.Items), .lst 5 false (List.map enc_api_Chain p.Synopsis.Sample.Chains), .int .i64 p.Synopsis.Summary.K, .int .i64 p.Synopsis.Summary.Cap, .int .i64 p.Synopsis.Summary.N, .lst 3 false (List.map enc_api_Tuple p.Synopsis.Summary.Tuples), .int .i64 p.Synopsis.Quantile.W, .int .i64 p.Synopsis.Quantile.K, .int .i64 p.Synopsis.Quantile.Cap, .int .i64 p.Synopsis.Quantile.Now, .lst 5 false (List.map enc_api_Block p.Synopsis.Quantile.Blocks)]
def wf_api_Record (p:api_Record):Prop:=(wfI .i64) p.ID∧wf_api_Synopsis p.Synopsis
def wfU_api_Record (p:api_Record):Prop:=(wfI .i64) p.ID∧wfU_api_Synopsis p.Synopsis
structure api_Engine where
 Now:Int
 Limit:Int
 Records:(List api_Record)
 deriving Inhabited
def enc_api_Engine (p:api_Engine):List AV:= [.int .i64 p.Now, .int .i64 p.Limit, .lst 58 false (List.map enc_api_Record p.Records)]
def wf_api_Engine (p:api_Engine):Prop:=(wfI .i64) p.Now∧(wfI .i64) p.Limit∧(wfL wf_api_Record) p.Records
def wfU_api_Engine (p:api_Engine):Prop:=(wfI .i64) p.Now∧(wfI .i64) p.Limit∧(wfLU wfU_api_Record) p.Records
noncomputable def num_CeilDiv (p0:Int) (p1:Int):Option (Int×Bool):=
 cond ((p1==(0:Int))||((p0==(-9223372036854775808:Int))&&(p1==(-1:Int)))) (
  some ((0:Int),false))<|
 ck (decide (p1≠0))<|
 ck (decide (p1≠0))<|
 cond (((Int.tmod p0 p1) !=(0:Int))&&((decide (p0<(0:Int)))==(decide (p1<(0:Int))))) (
  some ((w64 ((w64 (Int.tdiv p0 p1))+(1:Int))),true))<|
 some ((w64 (Int.tdiv p0 p1)),true)
noncomputable def blocks_Allowed_l3s (p0:Int) (p1:Int) (b:Int) (a:Int):Option ((Int×Int)⊕Int):=
 cond (decide (a≤p0)) (
  ck (decide (0≤(wu64 a)))<|
  cond (decide ((ishl .i64 (1:Int) (wu64 a))>(w64 (p1+(1:Int))))) (
   Option.bind (num_CeilDiv (w64 ((ishl .i64 (1:Int) (wu64 a))-(1:Int))) p1) fun c=>
   some (.inl ((w64 ((w64 ((2:Int)*b))+c.1)),(w64 (a+(1:Int))))))<|
  some (.inl (b,(w64 (a+(1:Int))))))<|
 Option.map Sum.inr (some b)
noncomputable def blocks_Allowed_l3 (p0:Int) (p1:Int) (a:Int) (b:Int):Option Int:=
 loop (fun (s:(Int×Int))=>blocks_Allowed_l3s p0 p1 s.1 s.2) (a,b)
noncomputable def blocks_Allowed (p0:Int) (p1:Int):Option Int:=
 cond ((((decide (p0<(0:Int)))||(decide (p0>(30:Int))))||(decide (p1<(1:Int))))||(decide (p1>(65536:Int)))) (
  some (-1:Int))<|
 blocks_Allowed_l3 p0 p1 (0:Int) (0:Int)
noncomputable def blocks_plain_l2s (p0:(List api_Block)) (b:(List api_Bucket)) (c:Int):Option (((List api_Bucket)×Int)⊕(List api_Bucket)):=
 cond (decide (c<(p0.length:Int))) (
  Option.bind (idx p0 c) fun a=>
  ck (decide ((b.length+ [(api_Bucket.mk a.T a.Level)].length)*16≤140737488355328))<|
  some (.inl ((b++ [(api_Bucket.mk a.T a.Level)]),(w64 (c+(1:Int))))))<|
 Option.map Sum.inr (some b)
noncomputable def blocks_plain_l2 (p0:(List api_Block)) (a:(List api_Bucket)) (b:Int):Option (List api_Bucket):=
 loop (fun (s:((List api_Bucket)×Int))=>blocks_plain_l2s p0 s.1 s.2) (a,b)
noncomputable def blocks_plain (p0:(List api_Block)):Option (List api_Bucket):=
 blocks_plain_l2 p0 ([]:List api_Bucket) (0:Int)
noncomputable def buckets_level (p0:Int):Bool:=
 ((decide (p0≥(0:Int)))&&(decide (p0≤(30:Int))))
noncomputable def buckets_Total_l2s (p0:(List api_Bucket)) (b:Int) (a:Int):Option ((Int×Int)⊕Int):=
 cond (decide (a<(p0.length:Int))) (
  Option.bind (idx p0 a) fun c=>
  let d:=(buckets_level c.Level);
  cond d (
   ck (decide (0≤(wu64 c.Level)))<|
   some (.inl ((w64 (b+(ishl .i64 (1:Int) (wu64 c.Level)))),(w64 (a+(1:Int))))))<|
  some (.inl (b,(w64 (a+(1:Int))))))<|
 Option.map Sum.inr (some b)
noncomputable def buckets_Total_l2 (p0:(List api_Bucket)) (a:Int) (b:Int):Option Int:=
 loop (fun (s:(Int×Int))=>buckets_Total_l2s p0 s.1 s.2) (a,b)
noncomputable def buckets_Total (p0:(List api_Bucket)):Option Int:=
 buckets_Total_l2 p0 (0:Int) (0:Int)
noncomputable def blocks_Total (p0:(List api_Block)):Option Int:=
 Option.bind (blocks_plain p0) fun a=>
 Option.bind (buckets_Total a) fun b=>
 some b
noncomputable def buckets_tick (p0:Int):Bool:=
 ((decide (p0≥(0:Int)))&&(decide (p0≤(16777216:Int))))
noncomputable def buckets_Valid_l10s (p1:Int) (w:Int) (x:Int) (y:Int) (z:Int) (A:Int) (B:Int) (C:Int) (D:Int) (E:Int) (F:Int) (a:Int) (b:Int) (c:Int) (d:Int) (e:Int) (f:Int) (g:Int) (h:Int) (i:Int) (j:Int) (k:Int) (l:Int) (m:Int) (n:Int) (o:Int) (p:Int) (q:Int) (r:Int) (s:Int) (t:Int) (u:Int) (G:api_Bucket) (v:Int):Option (Int⊕Bool):=
 cond (decide (v≤G.Level)) (
  Option.bind (idx [w,x,y,z,A,B,C,D,E,F,a,b,c,d,e,f,g,h,i,j,k,l,m,n,o,p,q,r,s,t,u] v) fun K=>
  Option.bind (idx [w,x,y,z,A,B,C,D,E,F,a,b,c,d,e,f,g,h,i,j,k,l,m,n,o,p,q,r,s,t,u] v) fun H=>
  Option.bind (gd ((!(decide (H>(w64 (p1+(1:Int))))))&&(decide (v<G.Level))) (idx [w,x,y,z,A,B,C,D,E,F,a,b,c,d,e,f,g,h,i,j,k,l,m,n,o,p,q,r,s,t,u] v)) fun J=>
  Option.bind (gd ((!(decide (H>(w64 (p1+(1:Int))))))&&(decide (v<G.Level))) (idx [w,x,y,z,A,B,C,D,E,F,a,b,c,d,e,f,g,h,i,j,k,l,m,n,o,p,q,r,s,t,u] v)) fun I=>
  cond ((decide (H>(w64 (p1+(1:Int)))))||((decide (v<G.Level))&&(decide (I<p1)))) (
   some (.inr false))<|
  some (.inl (w64 (v+(1:Int)))))<|
 Option.map Sum.inr (some true)
noncomputable def buckets_Valid_l10 (p1:Int) (w:Int) (x:Int) (y:Int) (z:Int) (A:Int) (B:Int) (C:Int) (D:Int) (E:Int) (F:Int) (a:Int) (b:Int) (c:Int) (d:Int) (e:Int) (f:Int) (g:Int) (h:Int) (i:Int) (j:Int) (k:Int) (l:Int) (m:Int) (n:Int) (o:Int) (p:Int) (q:Int) (r:Int) (t:Int) (u:Int) (v:Int) (G:api_Bucket) (H:Int):Option Bool:=
 loop (fun (s:Int)=>buckets_Valid_l10s p1 w x y z A B C D E F a b c d e f g h i j k l m n o p q r t u v G s) H
noncomputable def buckets_Valid_l3s (p0:(List api_Bucket)) (p1:Int) (H:Int) (x:Int) (y:Int) (z:Int) (A:Int) (B:Int) (C:Int) (D:Int) (E:Int) (F:Int) (G:Int) (c:Int) (d:Int) (e:Int) (f:Int) (g:Int) (h:Int) (i:Int) (j:Int) (k:Int) (l:Int) (m:Int) (n:Int) (o:Int) (p:Int) (q:Int) (r:Int) (s:Int) (t:Int) (u:Int) (v:Int) (w:Int):Option ((Int×Int×Int×Int×Int×Int×Int×Int×Int×Int×Int×Int×Int×Int×Int×Int×Int×Int×Int×Int×Int×Int×Int×Int×Int×Int×Int×Int×Int×Int×Int×Int)⊕Bool):=
 cond (decide (H<(p0.length:Int))) (
  Option.bind (idx p0 H) fun a=>
  let L:=(buckets_tick a.T);
  let M:=(buckets_level a.Level);
  cond ((!L)||(!M)) (
   some (.inr false))<|
  Option.bind (gd (decide (H>(0:Int))) (idx p0 (w64 (H-(1:Int))))) fun I=>
  Option.bind (gd ((decide (H>(0:Int)))&&(!(decide (I.T>a.T)))) (idx p0 (w64 (H-(1:Int))))) fun J=>
  cond ((decide (H>(0:Int)))&&((decide (I.T>a.T))||(decide (J.Level<a.Level)))) (
   some (.inr false))<|
  Option.bind (idx [x,y,z,A,B,C,D,E,F,G,c,d,e,f,g,h,i,j,k,l,m,n,o,p,q,r,s,t,u,v,w] a.Level) fun N=>
  Option.bind (idx [x,y,z,A,B,C,D,E,F,G,c,d,e,f,g,h,i,j,k,l,m,n,o,p,q,r,s,t,u,v,w] a.Level) fun b=>
  Option.bind (idx [x,y,z,A,B,C,D,E,F,G,c,d,e,f,g,h,i,j,k,l,m,n,o,p,q,r,s,t,u,v,w] a.Level) fun O=>
  Option.bind (idx [x,y,z,A,B,C,D,E,F,G,c,d,e,f,g,h,i,j,k,l,m,n,o,p,q,r,s,t,u,v,w] a.Level) fun P=>
  some (.inl ((w64 (H+(1:Int))),(if (a.Level).toNat=0 then (w64 (b+(1:Int))) else x),(if (a.Level).toNat=1 then (w64 (b+(1:Int))) else y),(if (a.Level).toNat=2 then (w64 (b+(1:Int))) else z),(if (a.Level).toNat=3 then (w64 (b+(1:Int))) else A),(if (a.Level).toNat=4 then (w64 (b+(1:Int))) else B),(if (a.Level).toNat=5 then (w64 (b+(1:Int))) else C),(if (a.Level).toNat=6 then (w64 (b+(1:Int))) else D),(if (a.Level).toNat=7 then (w64 (b+(1:Int))) else E),(if (a.Level).toNat=8 then (w64 (b+(1:Int))) else F),(if (a.Level).toNat=9 then (w64 (b+(1:Int))) else G),(if (a.Level).toNat=10 then (w64 (b+(1:Int))) else c),(if (a.Level).toNat=11 then (w64 (b+(1:Int))) else d),(if (a.Level).toNat=12 then (w64 (b+(1:Int))) else e),(if (a.Level).toNat=13 then (w64 (b+(1:Int))) else f),(if (a.Level).toNat=14 then (w64 (b+(1:Int))) else g),(if (a.Level).toNat=15 then (w64 (b+(1:Int))) else h),(if (a.Level).toNat=16 then (w64 (b+(1:Int))) else i),(if (a.Level).toNat=17 then (w64 (b+(1:Int))) else j),(if (a.Level).toNat=18 then (w64 (b+(1:Int))) else k),(if (a.Level).toNat=19 then (w64 (b+(1:Int))) else l),(if (a.Level).toNat=20 then (w64 (b+(1:Int))) else m),(if (a.Level).toNat=21 then (w64 (b+(1:Int))) else n),(if (a.Level).toNat=22 then (w64 (b+(1:Int))) else o),(if (a.Level).toNat=23 then (w64 (b+(1:Int))) else p),(if (a.Level).toNat=24 then (w64 (b+(1:Int))) else q),(if (a.Level).toNat=25 then (w64 (b+(1:Int))) else r),(if (a.Level).toNat=26 then (w64 (b+(1:Int))) else s),(if (a.Level).toNat=27 then (w64 (b+(1:Int))) else t),(if (a.Level).toNat=28 then (w64 (b+(1:Int))) else u),(if (a.Level).toNat=29 then (w64 (b+(1:Int))) else v),(if (a.Level).toNat=30 then (w64 (b+(1:Int))) else w))))<|
 Option.map Sum.inr (cond ((p0.length:Int)==(0:Int)) (
  some true)<|
 Option.bind (idx p0 (0:Int)) fun K=>
 buckets_Valid_l10 p1 x y z A B C D E F G c d e f g h i j k l m n o p q r s t u v w K (0:Int))
noncomputable def buckets_Valid_l3 (p0:(List api_Bucket)) (p1:Int) (G:Int) (w:Int) (x:Int) (y:Int) (z:Int) (A:Int) (B:Int) (C:Int) (D:Int) (E:Int) (F:Int) (a:Int) (b:Int) (c:Int) (d:Int) (e:Int) (f:Int) (g:Int) (h:Int) (i:Int) (j:Int) (k:Int) (l:Int) (m:Int) (n:Int) (o:Int) (p:Int) (q:Int) (r:Int) (t:Int) (u:Int) (v:Int):Option Bool:=
 loop (fun (s:(Int×Int×Int×Int×Int×Int×Int×Int×Int×Int×Int×Int×Int×Int×Int×Int×Int×Int×Int×Int×Int×Int×Int×Int×Int×Int×Int×Int×Int×Int×Int×Int))=>buckets_Valid_l3s p0 p1 s.1 s.2.1 s.2.2.1 s.2.2.2.1 s.2.2.2.2.1 s.2.2.2.2.2.1 s.2.2.2.2.2.2.1 s.2.2.2.2.2.2.2.1 s.2.2.2.2.2.2.2.2.1 s.2.2.2.2.2.2.2.2.2.1 s.2.2.2.2.2.2.2.2.2.2.1 s.2.2.2.2.2.2.2.2.2.2.2.1 s.2.2.2.2.2.2.2.2.2.2.2.2.1 s.2.2.2.2.2.2.2.2.2.2.2.2.2.1 s.2.2.2.2.2.2.2.2.2.2.2.2.2.2.1 s.2.2.2.2.2.2.2.2.2.2.2.2.2.2.2.1 s.2.2.2.2.2.2.2.2.2.2.2.2.2.2.2.2.1 s.2.2.2.2.2.2.2.2.2.2.2.2.2.2.2.2.2.1 s.2.2.2.2.2.2.2.2.2.2.2.2.2.2.2.2.2.2.1 s.2.2.2.2.2.2.2.2.2.2.2.2.2.2.2.2.2.2.2.1 s.2.2.2.2.2.2.2.2.2.2.2.2.2.2.2.2.2.2.2.2.1 s.2.2.2.2.2.2.2.2.2.2.2.2.2.2.2.2.2.2.2.2.2.1 s.2.2.2.2.2.2.2.2.2.2.2.2.2.2.2.2.2.2.2.2.2.2.1 s.2.2.2.2.2.2.2.2.2.2.2.2.2.2.2.2.2.2.2.2.2.2.2.1 s.2.2.2.2.2.2.2.2.2.2.2.2.2.2.2.2.2.2.2.2.2.2.2.2.1 s.2.2.2.2.2.2.2.2.2.2.2.2.2.2.2.2.2.2.2.2.2.2.2.2.2.1 s.2.2.2.2.2.2.2.2.2.2.2.2.2.2.2.2.2.2.2.2.2.2.2.2.2.2.1 s.2.2.2.2.2.2.2.2.2.2.2.2.2.2.2.2.2.2.2.2.2.2.2.2.2.2.2.1 s.2.2.2.2.2.2.2.2.2.2.2.2.2.2.2.2.2.2.2.2.2.2.2.2.2.2.2.2.1 s.2.2.2.2.2.2.2.2.2.2.2.2.2.2.2.2.2.2.2.2.2.2.2.2.2.2.2.2.2.1 s.2.2.2.2.2.2.2.2.2.2.2.2.2.2.2.2.2.2.2.2.2.2.2.2.2.2.2.2.2.2.1 s.2.2.2.2.2.2.2.2.2.2.2.2.2.2.2.2.2.2.2.2.2.2.2.2.2.2.2.2.2.2.2) (G,w,x,y,z,A,B,C,D,E,F,a,b,c,d,e,f,g,h,i,j,k,l,m,n,o,p,q,r,t,u,v)
noncomputable def buckets_Valid (p0:(List api_Bucket)) (p1:Int):Option Bool:=
 cond ((decide (p1<(1:Int)))||(decide (p1>(128:Int)))) (
  some false)<|
 buckets_Valid_l3 p0 p1 (0:Int) (0:Int) (0:Int) (0:Int) (0:Int) (0:Int) (0:Int) (0:Int) (0:Int) (0:Int) (0:Int) (0:Int) (0:Int) (0:Int) (0:Int) (0:Int) (0:Int) (0:Int) (0:Int) (0:Int) (0:Int) (0:Int) (0:Int) (0:Int) (0:Int) (0:Int) (0:Int) (0:Int) (0:Int) (0:Int) (0:Int) (0:Int)
noncomputable def rank_Validate_l3s (p0:api_Ranks) (a:Int):Option (Int⊕Int):=
 cond (decide (a<(p0.Entries.length:Int))) (
  Option.bind (idx p0.Entries a) fun b=>
  cond (((decide (b.Min<(1:Int)))||(decide (b.Min>b.Max)))||(decide (b.Max>p0.N))) (
   some (.inr (2:Int)))<|
  cond (decide (a>(0:Int))) (
   Option.bind (idx p0.Entries (w64 (a-(1:Int)))) fun c=>
   cond (((decide (c.V>b.V))||(decide (c.Min≥b.Min)))||(decide (c.Max≥b.Max))) (
    some (.inr (2:Int)))<|
   some (.inl (w64 (a+(1:Int)))))<|
  some (.inl (w64 (a+(1:Int)))))<|
 Option.map Sum.inr (Option.bind (gd (decide ((p0.Entries.length:Int)>(0:Int))) (idx p0.Entries (0:Int))) fun d=>
 Option.bind (gd ((decide ((p0.Entries.length:Int)>(0:Int)))&&(!(d.Max !=(1:Int)))) (idx p0.Entries (w64 ((p0.Entries.length:Int)-(1:Int))))) fun e=>
 cond ((decide ((p0.Entries.length:Int)>(0:Int)))&&((d.Max !=(1:Int))||(e.Min !=p0.N))) (
  some (2:Int))<|
 some (0:Int))
noncomputable def rank_Validate_l3 (p0:api_Ranks) (a:Int):Option Int:=
 loop (fun (s:Int)=>rank_Validate_l3s p0 s) a
noncomputable def rank_Validate (p0:api_Ranks):Option Int:=
 cond (((decide (p0.N<(0:Int)))||(decide (p0.N>(1099511627776:Int))))||(!(((p0.Entries.length:Int)==(0:Int))==(p0.N==(0:Int))))) (
  some (2:Int))<|
 rank_Validate_l3 p0 (0:Int)
noncomputable def rank_Gap_l3s (p0:api_Ranks) (b:Int) (a:Int):Option ((Int×Int)⊕Int):=
 cond (decide (a<(p0.Entries.length:Int))) (
  Option.bind (idx p0.Entries a) fun d=>
  Option.bind (idx p0.Entries (w64 (a-(1:Int)))) fun c=>
  some (.inl ((imax b (w64 (d.Max-c.Min))),(w64 (a+(1:Int))))))<|
 Option.map Sum.inr (some b)
noncomputable def rank_Gap_l3 (p0:api_Ranks) (a:Int) (b:Int):Option Int:=
 loop (fun (s:(Int×Int))=>rank_Gap_l3s p0 s.1 s.2) (a,b)
noncomputable def rank_Gap (p0:api_Ranks):Option Int:=
 Option.bind (rank_Validate p0) fun a=>
 cond ((a !=(0:Int))||((p0.Entries.length:Int)==(0:Int))) (
  some (0:Int))<|
 rank_Gap_l3 p0 (1:Int) (1:Int)
noncomputable def blocks_Valid_l3s (p0:(List api_Block)) (p2:Int) (b:Int):Option (Int⊕Bool):=
 cond (decide (b<(p0.length:Int))) (
  Option.bind (idx p0 b) fun a=>
  Option.bind (rank_Validate a.Ranks) fun c=>
  ck (!(!(c !=(0:Int)))||(decide (0≤(wu64 a.Level))))<|
  Option.bind (gd (!(((c !=(0:Int))||(a.Ranks.N !=(ishl .i64 (1:Int) (wu64 a.Level))))||(decide ((a.Ranks.Entries.length:Int)>(w64 (p2+(1:Int))))))) (rank_Gap a.Ranks)) fun f=>
  Option.bind (gd (!(((c !=(0:Int))||(a.Ranks.N !=(ishl .i64 (1:Int) (wu64 a.Level))))||(decide ((a.Ranks.Entries.length:Int)>(w64 (p2+(1:Int))))))) (blocks_Allowed a.Level p2)) fun g=>
  cond ((((c !=(0:Int))||(a.Ranks.N !=(ishl .i64 (1:Int) (wu64 a.Level))))||(decide ((a.Ranks.Entries.length:Int)>(w64 (p2+(1:Int))))))||(decide ((w64 (f-(1:Int)))>g))) (
   some (.inr false))<|
  Option.bind (idx a.Ranks.Entries (0:Int)) fun e=>
  Option.bind (idx a.Ranks.Entries (w64 ((a.Ranks.Entries.length:Int)-(1:Int)))) fun d=>
  cond ((((decide (e.V<(-4096:Int)))||(decide (d.V>(4096:Int))))||(decide (a.Last<e.V)))||(decide (a.Last>d.V))) (
   some (.inr false))<|
  some (.inl (w64 (b+(1:Int)))))<|
 Option.map Sum.inr (some true)
noncomputable def blocks_Valid_l3 (p0:(List api_Block)) (p2:Int) (a:Int):Option Bool:=
 loop (fun (s:Int)=>blocks_Valid_l3s p0 p2 s) a
noncomputable def blocks_Valid (p0:(List api_Block)) (p1:Int) (p2:Int):Option Bool:=
 Option.bind (gd (!((decide (p2<(1:Int)))||(decide (p2>(65536:Int))))) (blocks_plain p0)) fun b=>
 Option.bind (gd (!((decide (p2<(1:Int)))||(decide (p2>(65536:Int))))) (buckets_Valid b p1)) fun a=>
 cond (((decide (p2<(1:Int)))||(decide (p2>(65536:Int))))||(!a)) (
  some false)<|
 blocks_Valid_l3 p0 p2 (0:Int)
noncomputable def chain_Validate_l6s (p0:api_Chain) (a:Int):Option (Int⊕Int):=
 cond (decide (a<(p0.Links.length:Int))) (
  Option.bind (idx p0.Links a) fun b=>
  cond (((((decide (b.V<(-4096:Int)))||(decide (b.V>(4096:Int))))||(decide (b.I<(1:Int))))||(decide (b.I>p0.I)))||(decide (b.I≤(w64 (p0.I-p0.W))))) (
   some (.inr (2:Int)))<|
  Option.bind (gd (decide (a>(0:Int))) (idx p0.Links (w64 (a-(1:Int))))) fun c=>
  Option.bind (gd ((decide (a>(0:Int)))&&(!(decide (b.I≤c.I)))) (idx p0.Links (w64 (a-(1:Int))))) fun d=>
  cond ((decide (a>(0:Int)))&&((decide (b.I≤c.I))||(decide (b.I>(w64 (d.I+p0.W)))))) (
   some (.inr (2:Int)))<|
  some (.inl (w64 (a+(1:Int)))))<|
 Option.map Sum.inr (Option.bind (gd (!(decide (p0.Next≤p0.I))) (idx p0.Links (w64 ((p0.Links.length:Int)-(1:Int))))) fun e=>
 cond ((decide (p0.Next≤p0.I))||(decide (p0.Next>(w64 (e.I+p0.W))))) (
  some (2:Int))<|
 some (0:Int))
noncomputable def chain_Validate_l6 (p0:api_Chain) (a:Int):Option Int:=
 loop (fun (s:Int)=>chain_Validate_l6s p0 s) a
noncomputable def chain_Validate (p0:api_Chain):Option Int:=
 cond (((((((decide (p0.W<(1:Int)))||(decide (p0.W>(1048576:Int))))||(decide (p0.Cap<(1:Int))))||(decide (p0.Cap>(64:Int))))||(decide (p0.I<(0:Int))))||(decide (p0.I>(1099511627776:Int))))||(decide ((p0.Links.length:Int)>p0.Cap))) (
  some (2:Int))<|
 cond (p0.I==(0:Int)) (
  cond ((decide ((p0.Links.length:Int)>(0:Int)))||(p0.Next !=(0:Int))) (
   some (2:Int))<|
  some (0:Int))<|
 cond ((p0.Links.length:Int)==(0:Int)) (
  some (2:Int))<|
 chain_Validate_l6 p0 (0:Int)
noncomputable def clock_tick (p0:Int):Bool:=
 ((decide (p0≥(0:Int)))&&(decide (p0≤(16777216:Int))))
noncomputable def clock_First (p0:Int) (p1:Int):Int:=
 let a:=(clock_tick p0);
 cond (((!a)||(decide (p1<(1:Int))))||(decide (p1>(1048576:Int)))) (
  (-1:Int))<|
 (imax (0:Int) (w64 ((w64 (p0-p1))+(1:Int))))
noncomputable def clock_Live (p0:Int) (p1:Int) (p2:Int):Bool:=
 let a:=(clock_First p0 p1);
 let b:=(clock_tick p2);
 ((((decide (a≥(0:Int)))&&b)&&(decide (a≤p2)))&&(decide (p2≤p0)))
noncomputable def codec_Sum_l2s (p0:(List Int)) (a:Int) (c:Int) (b:Int):Option ((Int×Int×Int)⊕Int):=
 cond (decide (b<(p0.length:Int))) (
  Option.bind (idx p0 b) fun d=>
  some (.inl ((Int.tmod (w64 (a+(w64 d))) (65521:Int)),(Int.tmod (w64 (c+(Int.tmod (w64 (a+(w64 d))) (65521:Int)))) (65521:Int)),(w64 (b+(1:Int))))))<|
 Option.map Sum.inr (some (w64 ((w64 ((65536:Int)*c))+a)))
noncomputable def codec_Sum_l2 (p0:(List Int)) (a:Int) (b:Int) (c:Int):Option Int:=
 loop (fun (s:(Int×Int×Int))=>codec_Sum_l2s p0 s.1 s.2.1 s.2.2) (a,b,c)
noncomputable def codec_Sum (p0:(List Int)):Option Int:=
 codec_Sum_l2 p0 (1:Int) (0:Int) (0:Int)
noncomputable def config_Validate_1_i1 (p0:Bool) (b1_0:Bool) (b2:Int):(Bool×Int):=
 ((b1_0&&p0),(0:Int))
noncomputable def config_Validate_1_i2 (p0:Bool) (b1_0:Bool) (b2:Int) (b3:Int):(Bool×Int×Int):=
 ((b1_0&&p0),(0:Int),(0:Int))
noncomputable def config_in (p0:Int) (p1:Int) (p2:Int):Bool:=
 ((decide (p0≥p1))&&(decide (p0≤p2)))
noncomputable def config_Validate_j23 (p0:api_Config) (d:(Bool×Int)) (e:(Bool×Int)) (c:Int) (a:Int) (b:Bool):Int:=
 cond ((!b)||(!(p0.Kind==p0.Kind&&(c==(0:Int)&&(a==(0:Int)&&(d.2==(0:Int)&&(e.2==(0:Int)&&(p0.P==(0:Int)&&(p0.Chains==(0:Int)&&(p0.Max==(0:Int)&&true)))))))))) (
  (1:Int))<|
 (0:Int)
noncomputable def config_Validate_j5 (p0:api_Config) (a:Int) (d:Bool):Int:=
 let e:=(config_in p0.K (1:Int) (64:Int));
 let c:=(config_Validate_1_i1 e d p0.K);
 let f:=(config_in p0.Cap (1:Int) (65536:Int));
 let b:=(config_Validate_1_i1 f c.1 p0.Cap);
 cond (decide ((1048576:Int)>(0:Int))) (
  let g:=(config_in p0.W (1:Int) (1048576:Int));
  config_Validate_j23 p0 c b a (0:Int) (b.1&&g))<|
 config_Validate_j23 p0 c b a p0.W b.1
noncomputable def config_Validate_j23_2 (p0:api_Config) (c:(Bool×Int)) (a:Int) (b:Bool):Int:=
 cond ((!b)||(!(p0.Kind==p0.Kind&&(p0.Agg==(0:Int)&&(a==(0:Int)&&(p0.K==(0:Int)&&(p0.Cap==(0:Int)&&(c.2==(0:Int)&&(p0.Chains==(0:Int)&&(p0.Max==(0:Int)&&true)))))))))) (
  (1:Int))<|
 (0:Int)
noncomputable def config_Validate_j23_3 (p0:api_Config) (a:Int) (b:Bool):Int:=
 cond ((!b)||(!(p0.Kind==p0.Kind&&(p0.Agg==(0:Int)&&(a==(0:Int)&&(p0.K==(0:Int)&&(p0.Cap==(0:Int)&&(p0.P==(0:Int)&&(p0.Chains==(0:Int)&&(p0.Max==(0:Int)&&true)))))))))) (
  (1:Int))<|
 (0:Int)
noncomputable def config_Validate_j23_4 (p0:api_Config) (c:(Bool×Int×Int)) (a:Int) (b:Bool):Int:=
 cond ((!b)||(!(p0.Kind==p0.Kind&&(p0.Agg==(0:Int)&&(a==(0:Int)&&(p0.K==(0:Int)&&(c.2.2==(0:Int)&&(p0.P==(0:Int)&&(c.2.1==(0:Int)&&(p0.Max==(0:Int)&&true)))))))))) (
  (1:Int))<|
 (0:Int)
noncomputable def config_Validate_j23_5 (p0:api_Config) (c:(Bool×Int×Int)) (a:Int) (b:Bool):Int:=
 cond ((!b)||(!(p0.Kind==p0.Kind&&(p0.Agg==(0:Int)&&(a==(0:Int)&&(c.2.1==(0:Int)&&(c.2.2==(0:Int)&&(p0.P==(0:Int)&&(p0.Chains==(0:Int)&&(p0.Max==(0:Int)&&true)))))))))) (
  (1:Int))<|
 (0:Int)
noncomputable def config_Validate_j23_6 (p0:api_Config) (c:(Bool×Int)) (d:(Bool×Int)) (a:Int) (b:Bool):Int:=
 cond ((!b)||(!(p0.Kind==p0.Kind&&(p0.Agg==(0:Int)&&(a==(0:Int)&&(c.2==(0:Int)&&(d.2==(0:Int)&&(p0.P==(0:Int)&&(p0.Chains==(0:Int)&&((0:Int)==(0:Int)&&true)))))))))) (
  (1:Int))<|
 (0:Int)
noncomputable def config_Validate_j23_7 (p0:api_Config) (c:(Bool×Int)) (a:Int) (b:Bool):Int:=
 cond ((!b)||(!(p0.Kind==p0.Kind&&(p0.Agg==(0:Int)&&(a==(0:Int)&&(p0.K==(0:Int)&&(c.2==(0:Int)&&(p0.P==(0:Int)&&(p0.Chains==(0:Int)&&((0:Int)==(0:Int)&&true)))))))))) (
  (1:Int))<|
 (0:Int)
noncomputable def config_Validate_j23_8 (p0:api_Config) (c:(Bool×Int)) (a:Int) (b:Bool):Int:=
 cond ((!b)||(!(p0.Kind==p0.Kind&&(p0.Agg==(0:Int)&&(a==(0:Int)&&(p0.K==(0:Int)&&(c.2==(0:Int)&&(p0.P==(0:Int)&&(p0.Chains==(0:Int)&&(p0.Max==(0:Int)&&true)))))))))) (
  (1:Int))<|
 (0:Int)
noncomputable def config_Validate_j18 (p0:api_Config) (d:Bool):Int:=
 cond d (
  config_Validate_j5 p0 p0.Agg true)<|
 cond (p0.Kind==(8:Int)) (
  let e:=(config_in p0.Max (0:Int) (1:Int));
  let b:=(config_in p0.Cap (1:Int) (65536:Int));
  let a:=(config_Validate_1_i1 b e p0.Cap);
  cond (decide ((1048576:Int)>(0:Int))) (
   let c:=(config_in p0.W (1:Int) (1048576:Int));
   config_Validate_j23_7 p0 a (0:Int) (a.1&&c))<|
  config_Validate_j23_7 p0 a p0.W a.1)<|
 cond (p0.Kind==(1:Int)) (
  let b:=(config_in p0.Cap (1:Int) (65536:Int));
  let a:=(config_Validate_1_i1 b true p0.Cap);
  cond (decide ((1048576:Int)>(0:Int))) (
   let c:=(config_in p0.W (1:Int) (1048576:Int));
   config_Validate_j23_8 p0 a (0:Int) (a.1&&c))<|
  config_Validate_j23_8 p0 a p0.W a.1)<|
 (1:Int)
noncomputable def config_Validate (p0:api_Config):Int:=
 cond (p0.Kind==(6:Int)) (
  let h:=(config_in p0.P (0:Int) (4:Int));
  let d:=(config_Validate_1_i1 h true p0.P);
  cond (decide ((0:Int)>(0:Int))) (
   let a:=(config_in p0.W (1:Int) (0:Int));
   config_Validate_j23_2 p0 d (0:Int) (d.1&&a))<|
  config_Validate_j23_2 p0 d p0.W d.1)<|
 cond (p0.Kind==(7:Int)) (
  cond (decide ((64:Int)>(0:Int))) (
   let a:=(config_in p0.W (1:Int) (64:Int));
   config_Validate_j23_3 p0 (0:Int) a)<|
  config_Validate_j23_3 p0 p0.W true)<|
 cond (p0.Kind==(9:Int)) (
  let i:=(config_in p0.Chains (1:Int) (16:Int));
  let j:=(config_in p0.Cap (1:Int) (64:Int));
  let b:=(config_Validate_1_i2 (i&&j) true p0.Chains p0.Cap);
  cond (decide ((1048576:Int)>(0:Int))) (
   let a:=(config_in p0.W (1:Int) (1048576:Int));
   config_Validate_j23_4 p0 b (0:Int) (b.1&&a))<|
  config_Validate_j23_4 p0 b p0.W b.1)<|
 cond (p0.Kind==(10:Int)) (
  let k:=(config_in p0.K (1:Int) (64:Int));
  let l:=(config_in p0.Cap (2:Int) (65536:Int));
  let c:=(config_Validate_1_i2 (k&&l) true p0.K p0.Cap);
  cond (decide ((0:Int)>(0:Int))) (
   let a:=(config_in p0.W (1:Int) (0:Int));
   config_Validate_j23_5 p0 c (0:Int) (c.1&&a))<|
  config_Validate_j23_5 p0 c p0.W c.1)<|
 cond (p0.Kind==(3:Int)) (
  let m:=(config_in p0.Max (1:Int) (1024:Int));
  let n:=(config_in p0.K (1:Int) (64:Int));
  let f:=(config_Validate_1_i1 n m p0.K);
  let o:=(config_in p0.Cap (1:Int) (65536:Int));
  let e:=(config_Validate_1_i1 o f.1 p0.Cap);
  cond (decide ((1048576:Int)>(0:Int))) (
   let a:=(config_in p0.W (1:Int) (1048576:Int));
   config_Validate_j23_6 p0 f e (0:Int) (e.1&&a))<|
  config_Validate_j23_6 p0 f e p0.W e.1)<|
 cond (p0.Kind==(4:Int)) (
  let p:=(config_in p0.Agg (1:Int) (4:Int));
  let g:=(config_Validate_1_i1 p true p0.Agg);
  config_Validate_j5 p0 g.2 g.1)<|
 cond (p0.Kind==(2:Int)) (
  config_Validate_j18 p0 (p0.Kind==(2:Int)))<|
 cond (p0.Kind==(5:Int)) (
  config_Validate_j18 p0 (p0.Kind==(5:Int)))<|
 config_Validate_j18 p0 (p0.Kind==(11:Int))
noncomputable def count_good (p0:Int) (p1:Int) (p2:Int) (p3:Int):Bool:=
 ((((((((decide (p0≥(1:Int)))&&(decide (p0≤(1048576:Int))))&&(decide (p1≥(1:Int))))&&(decide (p1≤(64:Int))))&&(decide (p2≥(1:Int))))&&(decide (p2≤(65536:Int))))&&(decide (p3≥(0:Int))))&&(decide (p3≤(16777216:Int))))
noncomputable def count_Validate_l3s (p0:api_Count) (a:Int):Option (Int⊕Int):=
 cond (decide (a<(p0.Buckets.length:Int))) (
  Option.bind (idx p0.Buckets a) fun b=>
  let c:=(clock_Live p0.Now p0.W b.T);
  cond (!c) (
   some (.inr (2:Int)))<|
  some (.inl (w64 (a+(1:Int)))))<|
 Option.map Sum.inr (some (0:Int))
noncomputable def count_Validate_l3 (p0:api_Count) (a:Int):Option Int:=
 loop (fun (s:Int)=>count_Validate_l3s p0 s) a
noncomputable def count_Validate (p0:api_Count):Option Int:=
 let a:=(count_good p0.W p0.K p0.Cap p0.Now);
 Option.bind (gd (!(!a)) (buckets_Valid p0.Buckets p0.K)) fun b=>
 Option.bind (gd (!((!a)||(!b))) (buckets_Total p0.Buckets)) fun c=>
 cond (((!a)||(!b))||(decide (c>p0.Cap))) (
  some (2:Int))<|
 count_Validate_l3 p0 (0:Int)
noncomputable def exact_tick (p0:Int):Bool:=
 ((decide (p0≥(0:Int)))&&(decide (p0≤(16777216:Int))))
noncomputable def exact_Valid_l3s (p0:(List api_Item)) (p1:Int) (a:Int):Option (Int⊕Bool):=
 cond (decide (a<(p0.length:Int))) (
  Option.bind (idx p0 a) fun b=>
  Option.bind (gd ((!((decide (b.T<(0:Int)))||(decide (b.T>p1))))&&(decide (a>(0:Int)))) (idx p0 (w64 (a-(1:Int))))) fun c=>
  cond (((decide (b.T<(0:Int)))||(decide (b.T>p1)))||((decide (a>(0:Int)))&&(decide (c.T>b.T)))) (
   some (.inr false))<|
  some (.inl (w64 (a+(1:Int)))))<|
 Option.map Sum.inr (some true)
noncomputable def exact_Valid_l3 (p0:(List api_Item)) (p1:Int) (a:Int):Option Bool:=
 loop (fun (s:Int)=>exact_Valid_l3s p0 p1 s) a
noncomputable def exact_Valid (p0:(List api_Item)) (p1:Int):Option Bool:=
 let a:=(exact_tick p1);
 cond (!a) (
  some false)<|
 exact_Valid_l3 p0 p1 (0:Int)
noncomputable def extreme_beats (p0:Bool) (p1:Int) (p2:Int):Bool:=
 cond p0 (
  (decide (p1≥p2)))<|
 (decide (p1≤p2))
noncomputable def extreme_good (p0:Int) (p1:Int) (p2:Int):Bool:=
 ((((((decide (p0≥(1:Int)))&&(decide (p0≤(1048576:Int))))&&(decide (p1≥(1:Int))))&&(decide (p1≤(65536:Int))))&&(decide (p2≥(0:Int))))&&(decide (p2≤(16777216:Int))))
noncomputable def extreme_Validate_l3s (p0:api_Extreme) (a:Int):Option (Int⊕Int):=
 cond (decide (a<(p0.Items.length:Int))) (
  Option.bind (idx p0.Items a) fun b=>
  let f:=(clock_Live p0.Now p0.W b.T);
  cond (((!f)||(decide (b.V<(-4096:Int))))||(decide (b.V>(4096:Int)))) (
   some (.inr (2:Int)))<|
  Option.bind (gd (decide (a>(0:Int))) (idx p0.Items (w64 (a-(1:Int))))) fun c=>
  Option.bind (gd ((decide (a>(0:Int)))&&(!(decide (c.T≥b.T)))) (idx p0.Items (w64 (a-(1:Int))))) fun d=>
  let e:=(extreme_beats p0.Max b.V d.V);
  cond ((decide (a>(0:Int)))&&((decide (c.T≥b.T))||e)) (
   some (.inr (2:Int)))<|
  some (.inl (w64 (a+(1:Int)))))<|
 Option.map Sum.inr (some (0:Int))
noncomputable def extreme_Validate_l3 (p0:api_Extreme) (a:Int):Option Int:=
 loop (fun (s:Int)=>extreme_Validate_l3s p0 s) a
noncomputable def extreme_Validate (p0:api_Extreme):Option Int:=
 let a:=(extreme_good p0.W p0.Cap p0.Now);
 cond ((!a)||(decide ((p0.Items.length:Int)>p0.Cap))) (
  some (2:Int))<|
 extreme_Validate_l3 p0 (0:Int)
noncomputable def halve_Validate_l3s (p0:api_Halve) (a:Int):Option (Int⊕Int):=
 cond (decide (a<(p0.Sums.length:Int))) (
  Option.bind (idx p0.Sums a) fun b=>
  cond (((decide (b<(0:Int)))||(decide (b>(1099511627776:Int))))||((b !=(0:Int))&&(decide (a>p0.Now)))) (
   some (.inr (2:Int)))<|
  some (.inl (w64 (a+(1:Int)))))<|
 Option.map Sum.inr (some (0:Int))
noncomputable def halve_Validate_l3 (p0:api_Halve) (a:Int):Option Int:=
 loop (fun (s:Int)=>halve_Validate_l3s p0 s) a
noncomputable def halve_Validate (p0:api_Halve):Option Int:=
 cond ((((decide ((p0.Sums.length:Int)<(1:Int)))||(decide ((p0.Sums.length:Int)>(64:Int))))||(decide (p0.Now<(0:Int))))||(decide (p0.Now>(16777216:Int)))) (
  some (2:Int))<|
 halve_Validate_l3 p0 (0:Int)
noncomputable def ref27_Append_l3s (a:Int) (b:(List Int)):Option ((Int×(List Int))⊕(List Int)):=
 cond (decide (a≥(128:Int))) (
  ck (decide ((b.length+ [(ior .u8 (IntKind.u8.wrap (iand .u64 a (127:Int))) (128:Int))].length)*1≤140737488355328))<|
  some (.inl ((ishr .u64 a (7:Int)),(b++ [(ior .u8 (IntKind.u8.wrap (iand .u64 a (127:Int))) (128:Int))]))))<|
 Option.map Sum.inr (ck (decide ((b.length+ [(IntKind.u8.wrap a)].length)*1≤140737488355328))<|
 some (b++ [(IntKind.u8.wrap a)]))
noncomputable def ref27_Append_l3 (a:Int) (b:(List Int)):Option (List Int):=
 loop (fun (s:(Int×(List Int)))=>ref27_Append_l3s s.1 s.2) (a,b)
noncomputable def ref27_Append_j1 (p0:(List Int)) (a:Int):Option (List Int):=
 ck (decide ((([]:List Int).length+p0.length)*1≤140737488355328))<|
 ref27_Append_l3 a (([]:List Int)++p0)
noncomputable def ref27_Append (p0:(List Int)) (p1:Int):Option (List Int):=
 cond (decide (p1<(0:Int))) (
  ref27_Append_j1 p0 (inot .u64 (ishl .u64 (wu64 p1) (1:Int))))<|
 ref27_Append_j1 p0 (ishl .u64 (wu64 p1) (1:Int))
noncomputable def ref27_Sum_l2s (p0:(List Int)) (a:Int) (c:Int) (b:Int):Option ((Int×Int×Int)⊕Int):=
 cond (decide (b<(p0.length:Int))) (
  Option.bind (idx p0 b) fun d=>
  some (.inl ((Int.tmod (w64 (a+(w64 d))) (65521:Int)),(Int.tmod (w64 (c+(Int.tmod (w64 (a+(w64 d))) (65521:Int)))) (65521:Int)),(w64 (b+(1:Int))))))<|
 Option.map Sum.inr (some (w64 ((w64 ((65536:Int)*c))+a)))
noncomputable def ref27_Sum_l2 (p0:(List Int)) (a:Int) (b:Int) (c:Int):Option Int:=
 loop (fun (s:(Int×Int×Int))=>ref27_Sum_l2s p0 s.1 s.2.1 s.2.2) (a,b,c)
noncomputable def ref27_Sum (p0:(List Int)):Option Int:=
 ref27_Sum_l2 p0 (1:Int) (0:Int) (0:Int)
noncomputable def ref27_Write_l2s (p0:(List Int)) (a:(List Int)) (b:Int):Option (((List Int)×Int)⊕(List Int)):=
 cond (decide (b<(p0.length:Int))) (
  Option.bind (idx p0 b) fun d=>
  Option.bind (ref27_Append ([]:List Int) d) fun c=>
  ck (decide ((a.length+c.length)*1≤140737488355328))<|
  some (.inl ((a++c),(w64 (b+(1:Int))))))<|
 Option.map Sum.inr (some a)
noncomputable def ref27_Write_l2 (p0:(List Int)) (a:(List Int)) (b:Int):Option (List Int):=
 loop (fun (s:((List Int)×Int))=>ref27_Write_l2s p0 s.1 s.2) (a,b)
noncomputable def ref27_Write (p0:(List Int)):Option (List Int):=
 ref27_Write_l2 p0 ([]:List Int) (0:Int)
noncomputable def ref28_Sealed (p0:(List Int)):Option (List Int):=
 Option.bind (ref27_Write p0) fun a=>
 Option.bind (ref27_Sum a) fun b=>
 Option.bind (ref27_Append a b) fun c=>
 some c
noncomputable def synopsis_others (p0:api_Synopsis):Bool:=
 cond ((p0.Config.Kind !=(1:Int))&&((((p0.Recent.W !=(0:Int))||(p0.Recent.Cap !=(0:Int)))||(p0.Recent.Now !=(0:Int)))||(decide ((p0.Recent.Items.length:Int)>(0:Int))))) (
  false)<|
 cond ((p0.Config.Kind !=(2:Int))&&(((((p0.Count.W !=(0:Int))||(p0.Count.K !=(0:Int)))||(p0.Count.Cap !=(0:Int)))||(p0.Count.Now !=(0:Int)))||(decide ((p0.Count.Buckets.length:Int)>(0:Int))))) (
  false)<|
 cond ((p0.Config.Kind !=(3:Int))&&((((((p0.Sum.W !=(0:Int))||(p0.Sum.K !=(0:Int)))||(p0.Sum.Cap !=(0:Int)))||(p0.Sum.Max !=(0:Int)))||(p0.Sum.Now !=(0:Int)))||(decide ((p0.Sum.Buckets.length:Int)>(0:Int))))) (
  false)<|
 cond ((p0.Config.Kind !=(4:Int))&&(((((((p0.Smooth.Agg !=(0:Int))||(p0.Smooth.W !=(0:Int)))||(p0.Smooth.K !=(0:Int)))||(p0.Smooth.Cap !=(0:Int)))||(p0.Smooth.Now !=(0:Int)))||(p0.Smooth.Seq !=(0:Int)))||(decide ((p0.Smooth.Marks.length:Int)>(0:Int))))) (
  false)<|
 cond ((p0.Config.Kind !=(5:Int))&&((((((p0.Spread.W !=(0:Int))||(p0.Spread.K !=(0:Int)))||(p0.Spread.Cap !=(0:Int)))||(p0.Spread.Now !=(0:Int)))||(p0.Spread.Seq !=(0:Int)))||(decide ((p0.Spread.Marks.length:Int)>(0:Int))))) (
  false)<|
 cond ((p0.Config.Kind !=(6:Int))&&((((p0.Poly.P !=(0:Int))||(p0.Poly.Land !=(0:Int)))||(p0.Poly.Now !=(0:Int)))||(decide ((p0.Poly.Moments.length:Int)>(0:Int))))) (
  false)<|
 cond ((p0.Config.Kind !=(7:Int))&&((p0.Halve.Now !=(0:Int))||(decide ((p0.Halve.Sums.length:Int)>(0:Int))))) (
  false)<|
 cond ((p0.Config.Kind !=(8:Int))&&((((p0.Extreme.Max||(p0.Extreme.W !=(0:Int)))||(p0.Extreme.Cap !=(0:Int)))||(p0.Extreme.Now !=(0:Int)))||(decide ((p0.Extreme.Items.length:Int)>(0:Int))))) (
  false)<|
 cond ((p0.Config.Kind !=(9:Int))&&(decide ((p0.Sample.Chains.length:Int)>(0:Int)))) (
  false)<|
 cond ((p0.Config.Kind !=(10:Int))&&((((p0.Summary.K !=(0:Int))||(p0.Summary.Cap !=(0:Int)))||(p0.Summary.N !=(0:Int)))||(decide ((p0.Summary.Tuples.length:Int)>(0:Int))))) (
  false)<|
 ((p0.Config.Kind==(11:Int))||(((((p0.Quantile.W==(0:Int))&&(p0.Quantile.K==(0:Int)))&&(p0.Quantile.Cap==(0:Int)))&&(p0.Quantile.Now==(0:Int)))&&((p0.Quantile.Blocks.length:Int)==(0:Int))))
noncomputable def poly_tick (p0:Int):Bool:=
 ((decide (p0≥(0:Int)))&&(decide (p0≤(16777216:Int))))
noncomputable def wide_Compare (p0:api_Wide) (p1:api_Wide):Int:=
 cond ((decide (p0.Hi<p1.Hi))||((p0.Hi==p1.Hi)&&(decide (p0.Lo<p1.Lo)))) (
  (-1:Int))<|
 cond (p0.Hi==p1.Hi&&(p0.Lo==p1.Lo&&true)) (
  (0:Int))<|
 (1:Int)
noncomputable def wide_Add (p0:api_Wide) (p1:api_Wide):Option (api_Wide×Bool):=
 Option.bind (math_bits_Add64 p0.Lo p1.Lo (0:Int)) fun a=>
 Option.bind (math_bits_Add64 p0.Hi p1.Hi a.2) fun b=>
 cond (b.2 !=(0:Int)) (
  some ((api_Wide.mk (0:Int) (0:Int)),false))<|
 some ((api_Wide.mk b.1 a.1),true)
noncomputable def math_bits_Mul64 (p0:Int) (p1:Int):(Int×Int):=
 ((wu64 ((wu64 ((wu64 ((ishr .u64 p0 (32:Int))*(ishr .u64 p1 (32:Int))))+(ishr .u64 (wu64 ((wu64 ((ishr .u64 p0 (32:Int))*(iand .u64 p1 (4294967295:Int))))+(ishr .u64 (wu64 ((iand .u64 p0 (4294967295:Int))*(iand .u64 p1 (4294967295:Int)))) (32:Int)))) (32:Int))))+(ishr .u64 (wu64 ((iand .u64 (wu64 ((wu64 ((ishr .u64 p0 (32:Int))*(iand .u64 p1 (4294967295:Int))))+(ishr .u64 (wu64 ((iand .u64 p0 (4294967295:Int))*(iand .u64 p1 (4294967295:Int)))) (32:Int)))) (4294967295:Int))+(wu64 ((iand .u64 p0 (4294967295:Int))*(ishr .u64 p1 (32:Int)))))) (32:Int)))),(wu64 (p0*p1)))
noncomputable def wide_Product (p0:Int) (p1:Int):api_Wide:=
 let a:=(math_bits_Mul64 p0 p1);
 (api_Wide.mk a.1 a.2)
noncomputable def wide_Mul_j2 (f:Int) (a:Int) (b:Int) (c:Int):Option (api_Wide×Bool):=
 let g:=(wide_Product a c);
 let d:=(wide_Product a b);
 cond (d.Hi !=(0:Int)) (
  some ((api_Wide.mk (0:Int) (0:Int)),false))<|
 Option.bind (wide_Add g (api_Wide.mk d.Lo (0:Int))) fun e=>
 some (e.1,e.2)
noncomputable def wide_Mul (p0:api_Wide) (p1:api_Wide):Option (api_Wide×Bool):=
 cond ((p0.Hi !=(0:Int))&&(p1.Hi !=(0:Int))) (
  some ((api_Wide.mk (0:Int) (0:Int)),false))<|
 cond (p0.Hi !=(0:Int)) (
  wide_Mul_j2 p1.Hi p1.Lo p0.Hi p0.Lo)<|
 wide_Mul_j2 p0.Hi p0.Lo p1.Hi p1.Lo
noncomputable def wide_Of (p0:Int):api_Wide:=
 (api_Wide.mk (0:Int) p0)
noncomputable def poly_Validate_l3s (p0:api_Poly) (f:api_Wide) (a:Int):Option (Int⊕Int):=
 cond (decide (a≤p0.P)) (
  Option.bind (idx p0.Moments (w64 (a-(1:Int)))) fun g=>
  Option.bind (idx p0.Moments a) fun h=>
  let c:=(wide_Compare g h);
  cond (decide (c>(0:Int))) (
   some (.inr (2:Int)))<|
  Option.bind (idx p0.Moments (w64 (a-(1:Int)))) fun i=>
  Option.bind (wide_Mul i f) fun b=>
  Option.bind (gd b.2 (idx p0.Moments a)) fun d=>
  let e:=(wide_Compare d b.1);
  cond (b.2&&(decide (e>(0:Int)))) (
   some (.inr (2:Int)))<|
  some (.inl (w64 (a+(1:Int)))))<|
 Option.map Sum.inr (some (0:Int))
noncomputable def poly_Validate_l3 (p0:api_Poly) (a:api_Wide) (b:Int):Option Int:=
 loop (fun (s:Int)=>poly_Validate_l3s p0 a s) b
noncomputable def poly_Validate (p0:api_Poly):Option Int:=
 let a:=(poly_tick p0.Now);
 cond ((((((decide (p0.P<(0:Int)))||(decide (p0.P>(4:Int))))||(!a))||(decide (p0.Land<(0:Int))))||(decide (p0.Land>p0.Now)))||((p0.Moments.length:Int) !=(w64 (p0.P+(1:Int))))) (
  some (2:Int))<|
 let b:=(wide_Of (wu64 (w64 ((w64 (p0.Now-p0.Land))+(1:Int)))));
 poly_Validate_l3 p0 b (1:Int)
noncomputable def num_Bits (p0:Int):Option Int:=
 cond (decide (p0<(0:Int))) (
  some (0:Int))<|
 Option.bind (math_bits_Len64 (wu64 p0)) fun a=>
 some a
noncomputable def quantile_good (p0:Int) (p1:Int) (p2:Int) (p3:Int):Bool:=
 ((((((((decide (p0≥(1:Int)))&&(decide (p0≤(1048576:Int))))&&(decide (p1≥(1:Int))))&&(decide (p1≤(64:Int))))&&(decide (p2≥(1:Int))))&&(decide (p2≤(65536:Int))))&&(decide (p3≥(0:Int))))&&(decide (p3≤(16777216:Int))))
noncomputable def quantile_Size (p0:Int) (p1:Int):Option Int:=
 let a:=(quantile_good (1:Int) p0 p1 (0:Int));
 cond (!a) (
  some (0:Int))<|
 Option.bind (num_Bits p1) fun b=>
 some (w64 ((w64 ((2:Int)*p0))*(w64 (b+(2:Int)))))
noncomputable def quantile_Validate_l3s (p0:api_Quantile) (a:Int):Option (Int⊕Int):=
 cond (decide (a<(p0.Blocks.length:Int))) (
  Option.bind (idx p0.Blocks a) fun b=>
  let c:=(clock_Live p0.Now p0.W b.T);
  cond (!c) (
   some (.inr (2:Int)))<|
  some (.inl (w64 (a+(1:Int)))))<|
 Option.map Sum.inr (some (0:Int))
noncomputable def quantile_Validate_l3 (p0:api_Quantile) (a:Int):Option Int:=
 loop (fun (s:Int)=>quantile_Validate_l3s p0 s) a
noncomputable def quantile_Validate (p0:api_Quantile):Option Int:=
 let a:=(quantile_good p0.W p0.K p0.Cap p0.Now);
 Option.bind (gd (!(!a)) (quantile_Size p0.K p0.Cap)) fun c=>
 Option.bind (gd (!(!a)) (blocks_Valid p0.Blocks (w64 ((2:Int)*p0.K)) c)) fun b=>
 Option.bind (gd (!((!a)||(!b))) (blocks_Total p0.Blocks)) fun d=>
 cond (((!a)||(!b))||(decide (d>p0.Cap))) (
  some (2:Int))<|
 quantile_Validate_l3 p0 (0:Int)
noncomputable def recent_good (p0:Int) (p1:Int) (p2:Int):Bool:=
 ((((((decide (p0≥(1:Int)))&&(decide (p0≤(1048576:Int))))&&(decide (p1≥(1:Int))))&&(decide (p1≤(65536:Int))))&&(decide (p2≥(0:Int))))&&(decide (p2≤(16777216:Int))))
noncomputable def recent_value (p0:Int):Bool:=
 ((decide (p0≥(-4096:Int)))&&(decide (p0≤(4096:Int))))
noncomputable def recent_Validate_l3s (p0:api_Recent) (a:Int):Option (Int⊕Int):=
 cond (decide (a<(p0.Items.length:Int))) (
  Option.bind (idx p0.Items a) fun b=>
  let d:=(clock_Live p0.Now p0.W b.T);
  let c:=(recent_value b.V);
  cond ((!d)||(!c)) (
   some (.inr (2:Int)))<|
  some (.inl (w64 (a+(1:Int)))))<|
 Option.map Sum.inr (some (0:Int))
noncomputable def recent_Validate_l3 (p0:api_Recent) (a:Int):Option Int:=
 loop (fun (s:Int)=>recent_Validate_l3s p0 s) a
noncomputable def recent_Validate (p0:api_Recent):Option Int:=
 let a:=(recent_good p0.W p0.Cap p0.Now);
 Option.bind (gd (!((!a)||(decide ((p0.Items.length:Int)>p0.Cap)))) (exact_Valid p0.Items p0.Now)) fun b=>
 cond (((!a)||(decide ((p0.Items.length:Int)>p0.Cap)))||(!b)) (
  some (2:Int))<|
 recent_Validate_l3 p0 (0:Int)
noncomputable def sample_Validate_l3s (p0:api_Sample) (a:Int):Option (Int⊕Int):=
 cond (decide (a<(p0.Chains.length:Int))) (
  Option.bind (idx p0.Chains a) fun b=>
  Option.bind (idx p0.Chains (0:Int)) fun c=>
  Option.bind (chain_Validate b) fun d=>
  cond ((((d !=(0:Int))||(b.W !=c.W))||(b.Cap !=c.Cap))||(b.I !=c.I)) (
   some (.inr (2:Int)))<|
  some (.inl (w64 (a+(1:Int)))))<|
 Option.map Sum.inr (some (0:Int))
noncomputable def sample_Validate_l3 (p0:api_Sample) (a:Int):Option Int:=
 loop (fun (s:Int)=>sample_Validate_l3s p0 s) a
noncomputable def sample_Validate (p0:api_Sample):Option Int:=
 cond ((decide ((p0.Chains.length:Int)<(1:Int)))||(decide ((p0.Chains.length:Int)>(16:Int)))) (
  some (2:Int))<|
 sample_Validate_l3 p0 (0:Int)
noncomputable def marks_fits (p0:Int) (p1:Int) (p2:Int) (p3:Int) (p4:Int):Bool:=
 (((((decide (p3≥(w64 (p0*p1))))&&(decide (p3≤(w64 (p0*p2)))))&&(decide (p4≥(0:Int))))&&(decide (p4≤(w64 ((w64 (p0*(4096:Int)))*(4096:Int))))))&&(decide ((w64 (p3*p3))≤(w64 (p0*p4)))))
noncomputable def marks_Valid_l3s (p0:(List api_Mark)) (p1:Int) (p2:Int) (p3:Int) (p4:Int) (p5:Int) (d:Int):Option (Int⊕Bool):=
 cond (decide (d<(p0.length:Int))) (
  Option.bind (idx p0 d) fun a=>
  cond ((((((decide (a.Seq<(1:Int)))||(decide (a.Seq>p1)))||(a.N !=(w64 ((w64 (p1-a.Seq))+(1:Int)))))||(decide (a.N>p2)))||(decide (a.T<(0:Int))))||(decide (a.T>p3))) (
   some (.inr false))<|
  let g:=(marks_fits a.N a.Min a.Max a.S a.Q);
  cond ((((decide (a.Min<p5))||(decide (a.Max>(4096:Int))))||(decide (a.Min>a.Max)))||(!g)) (
   some (.inr false))<|
  let e:=(clock_Live p3 p4 a.T);
  cond (((decide (d>(0:Int)))||((p0.length:Int)==(1:Int)))&&(!e)) (
   some (.inr false))<|
  cond (d==(0:Int)) (
   some (.inl (w64 (d+(1:Int)))))<|
  Option.bind (idx p0 (w64 (d-(1:Int)))) fun b=>
  let f:=(marks_fits (w64 (b.N-a.N)) b.Min b.Max (w64 (b.S-a.S)) (w64 (b.Q-a.Q)));
  cond (((((decide (b.Seq≥a.Seq))||(decide (b.T>a.T)))||(decide (b.Min>a.Min)))||(decide (b.Max<a.Max)))||(!f)) (
   some (.inr false))<|
  some (.inl (w64 (d+(1:Int)))))<|
 Option.map Sum.inr (cond ((p0.length:Int)==(0:Int)) (
  some true)<|
 Option.bind (idx p0 (w64 ((p0.length:Int)-(1:Int)))) fun c=>
 some ((((c.Seq==p1)&&(c.Min==c.S))&&(c.Max==c.S))&&(c.Q==(w64 (c.S*c.S)))))
noncomputable def marks_Valid_l3 (p0:(List api_Mark)) (p1:Int) (p2:Int) (p3:Int) (p4:Int) (p5:Int) (a:Int):Option Bool:=
 loop (fun (s:Int)=>marks_Valid_l3s p0 p1 p2 p3 p4 p5 s) a
noncomputable def marks_Valid (p0:(List api_Mark)) (p1:Int) (p2:Int) (p3:Int) (p4:Int) (p5:Int):Option Bool:=
 cond ((decide (p1<(0:Int)))||(decide (p1>(1099511627776:Int)))) (
  some false)<|
 marks_Valid_l3 p0 p1 p2 p3 p4 p5 (0:Int)
noncomputable def marks_Good (p0:Int) (p1:Int) (p2:Int) (p3:Int):Bool:=
 ((((((((decide (p0≥(1:Int)))&&(decide (p0≤(1048576:Int))))&&(decide (p1≥(1:Int))))&&(decide (p1≤(64:Int))))&&(decide (p2≥(1:Int))))&&(decide (p2≤(65536:Int))))&&(decide (p3≥(0:Int))))&&(decide (p3≤(16777216:Int))))
noncomputable def smooth_good (p0:Int) (p1:Int) (p2:Int) (p3:Int) (p4:Int):Bool:=
 let a:=(marks_Good p1 p2 p3 p4);
 (((decide (p0≥(1:Int)))&&(decide (p0≤(4:Int))))&&a)
noncomputable def smooth_least (p0:Int):Int:=
 cond ((p0==(2:Int))||(p0==(3:Int))) (
  (0:Int))<|
 (-4096:Int)
noncomputable def num_Sub (p0:Int) (p1:Int):(Int×Bool):=
 cond ((!((decide (p0≥(0:Int)))==(decide (p1≥(0:Int)))))&&(!((decide ((w64 (p0-p1))≥(0:Int)))==(decide (p0≥(0:Int)))))) (
  ((0:Int),false))<|
 ((w64 (p0-p1)),true)
noncomputable def smooth_Of (p0:api_Mark) (p1:Int):Int:=
 cond (p1==(1:Int)) (
  p0.N)<|
 cond (p1==(2:Int)) (
  p0.S)<|
 cond (p1==(3:Int)) (
  p0.Q)<|
 cond (p1==(4:Int)) (
  let a:=(num_Sub p0.Max p0.Min);
  a.1)<|
 (0:Int)
noncomputable def smooth_near (p0:api_Mark) (p1:api_Mark) (p2:Int) (p3:Int):Bool:=
 let a:=(smooth_Of p1 p2);
 let b:=(smooth_Of p0 p2);
 (decide ((w64 ((w64 (p3+(1:Int)))*a))≥(w64 (p3*b))))
noncomputable def smooth_Validate_l3s (p0:api_Smooth) (a:Int):Option (Int⊕Int):=
 cond (decide (a<(p0.Marks.length:Int))) (
  Option.bind (idx p0.Marks a) fun b=>
  Option.bind (gd (decide (a≥(2:Int))) (idx p0.Marks (w64 (a-(2:Int))))) fun g=>
  let d:=(smooth_near g b p0.Agg p0.K);
  cond ((decide (a≥(2:Int)))&&d) (
   some (.inr (2:Int)))<|
  Option.bind (gd (decide (a≥(1:Int))) (idx p0.Marks (w64 (a-(1:Int))))) fun c=>
  Option.bind (gd ((decide (a≥(1:Int)))&&(decide ((w64 (b.Seq-c.Seq))>(1:Int)))) (idx p0.Marks (w64 (a-(1:Int))))) fun e=>
  let f:=(smooth_near e b p0.Agg p0.K);
  cond (((decide (a≥(1:Int)))&&(decide ((w64 (b.Seq-c.Seq))>(1:Int))))&&(!f)) (
   some (.inr (2:Int)))<|
  some (.inl (w64 (a+(1:Int)))))<|
 Option.map Sum.inr (some (0:Int))
noncomputable def smooth_Validate_l3 (p0:api_Smooth) (a:Int):Option Int:=
 loop (fun (s:Int)=>smooth_Validate_l3s p0 s) a
noncomputable def smooth_Validate (p0:api_Smooth):Option Int:=
 let a:=(smooth_good p0.Agg p0.W p0.K p0.Cap p0.Now);
 let b:=(smooth_least p0.Agg);
 Option.bind (gd (!(!a)) (marks_Valid p0.Marks p0.Seq p0.Cap p0.Now p0.W b)) fun c=>
 cond ((!a)||(!c)) (
  some (2:Int))<|
 smooth_Validate_l3 p0 (0:Int)
noncomputable def spread_right (p0:api_Mark):Bool:=
 cond ((((((decide (p0.N<(1:Int)))||(decide (p0.N>(65536:Int))))||(decide (p0.S<(w64 ((IntKind.i64.wrap (0-p0.N))*(4096:Int))))))||(decide (p0.S>(w64 (p0.N*(4096:Int))))))||(decide (p0.Q<(0:Int))))||(decide (p0.Q>(w64 ((w64 (p0.N*(4096:Int)))*(4096:Int)))))) (
  false)<|
 (decide ((w64 (p0.S*p0.S))≤(w64 (p0.N*p0.Q))))
noncomputable def spread_top (p0:api_Mark):Int:=
 (w64 ((w64 (p0.N*p0.Q))-(w64 (p0.S*p0.S))))
noncomputable def spread_Close (p0:api_Mark) (p1:api_Mark) (p2:Int):Option Bool:=
 let c:=(spread_right p0);
 let d:=(spread_right p1);
 cond ((((!c)||(!d))||(decide (p2<(1:Int))))||(decide (p2>(64:Int)))) (
  some false)<|
 cond (decide ((w64 ((w64 ((6:Int)*p2))*p1.N))<(w64 ((w64 ((w64 ((6:Int)*p2))-(1:Int)))*p0.N)))) (
  some false)<|
 let e:=(spread_top p1);
 let f:=(wide_Product (wu64 e) (wu64 p0.N));
 let g:=(wide_Of (wu64 (w64 ((6:Int)*p2))));
 Option.bind (wide_Mul f g) fun a=>
 let h:=(spread_top p0);
 let i:=(wide_Product (wu64 h) (wu64 p1.N));
 let j:=(wide_Of (wu64 (w64 ((w64 ((6:Int)*p2))-(1:Int)))));
 Option.bind (wide_Mul i j) fun b=>
 let k:=(wide_Compare a.1 b.1);
 some (decide (k≥(0:Int)))
noncomputable def spread_Validate_l3s (p0:api_Spread) (a:Int):Option (Int⊕Int):=
 cond (decide (a<(p0.Marks.length:Int))) (
  Option.bind (idx p0.Marks (w64 (a-(2:Int)))) fun c=>
  Option.bind (idx p0.Marks a) fun d=>
  Option.bind (spread_Close c d p0.K) fun b=>
  cond b (
   some (.inr (2:Int)))<|
  some (.inl (w64 (a+(1:Int)))))<|
 Option.map Sum.inr (some (0:Int))
noncomputable def spread_Validate_l3 (p0:api_Spread) (a:Int):Option Int:=
 loop (fun (s:Int)=>spread_Validate_l3s p0 s) a
noncomputable def spread_Validate (p0:api_Spread):Option Int:=
 let a:=(marks_Good p0.W p0.K p0.Cap p0.Now);
 Option.bind (gd (!(!a)) (marks_Valid p0.Marks p0.Seq p0.Cap p0.Now p0.W (-4096:Int))) fun b=>
 cond ((!a)||(!b)) (
  some (2:Int))<|
 spread_Validate_l3 p0 (2:Int)
noncomputable def sum_good (p0:Int) (p1:Int) (p2:Int) (p3:Int) (p4:Int):Bool:=
 ((((((((((decide (p0≥(1:Int)))&&(decide (p0≤(1048576:Int))))&&(decide (p1≥(1:Int))))&&(decide (p1≤(64:Int))))&&(decide (p2≥(1:Int))))&&(decide (p2≤(65536:Int))))&&(decide (p3≥(1:Int))))&&(decide (p3≤(1024:Int))))&&(decide (p4≥(0:Int))))&&(decide (p4≤(16777216:Int))))
noncomputable def sum_Validate_l3s (p0:api_Sum) (a:Int):Option (Int⊕Int):=
 cond (decide (a<(p0.Buckets.length:Int))) (
  Option.bind (idx p0.Buckets a) fun b=>
  let c:=(clock_Live p0.Now p0.W b.T);
  cond (!c) (
   some (.inr (2:Int)))<|
  some (.inl (w64 (a+(1:Int)))))<|
 Option.map Sum.inr (some (0:Int))
noncomputable def sum_Validate_l3 (p0:api_Sum) (a:Int):Option Int:=
 loop (fun (s:Int)=>sum_Validate_l3s p0 s) a
noncomputable def sum_Validate (p0:api_Sum):Option Int:=
 let a:=(sum_good p0.W p0.K p0.Cap p0.Max p0.Now);
 Option.bind (gd (!(!a)) (buckets_Valid p0.Buckets p0.K)) fun b=>
 Option.bind (gd (!((!a)||(!b))) (buckets_Total p0.Buckets)) fun c=>
 cond (((!a)||(!b))||(decide (c>p0.Cap))) (
  some (2:Int))<|
 sum_Validate_l3 p0 (0:Int)
noncomputable def summary_most (p0:Int) (p1:Int):Option Int:=
 ck (decide (p1≠0))<|
 some (imax (1:Int) (w64 (Int.tdiv p0 p1)))
noncomputable def summary_Validate_l6s (p0:api_Summary) (d:Int) (e:Int) (b:Int):Option ((Int×Int)⊕Int):=
 cond (decide (b<(p0.Tuples.length:Int))) (
  Option.bind (idx p0.Tuples b) fun a=>
  Option.bind (gd ((!((decide (a.V<(-4096:Int)))||(decide (a.V>(4096:Int)))))&&(decide (b>(0:Int)))) (idx p0.Tuples (w64 (b-(1:Int))))) fun f=>
  cond (((decide (a.V<(-4096:Int)))||(decide (a.V>(4096:Int))))||((decide (b>(0:Int)))&&(decide (f.V>a.V)))) (
   some (.inr (2:Int)))<|
  cond ((((decide (a.G<(1:Int)))||(decide (a.D<(0:Int))))||(decide (a.G>d)))||(decide (a.D>(w64 (d-a.G))))) (
   some (.inr (2:Int)))<|
  some (.inl ((w64 (e+a.G)),(w64 (b+(1:Int))))))<|
 Option.map Sum.inr (Option.bind (idx p0.Tuples (0:Int)) fun c=>
 Option.bind (idx p0.Tuples (w64 ((p0.Tuples.length:Int)-(1:Int)))) fun g=>
 cond ((((e !=p0.N)||(c.G !=(1:Int)))||(c.D !=(0:Int)))||(g.D !=(0:Int))) (
  some (2:Int))<|
 some (0:Int))
noncomputable def summary_Validate_l6 (p0:api_Summary) (b:Int) (c:Int) (a:Int):Option Int:=
 loop (fun (s:(Int×Int))=>summary_Validate_l6s p0 b s.1 s.2) (c,a)
noncomputable def summary_Validate (p0:api_Summary):Option Int:=
 cond (((((((decide (p0.K<(1:Int)))||(decide (p0.K>(64:Int))))||(decide (p0.Cap<(2:Int))))||(decide (p0.Cap>(65536:Int))))||(decide (p0.N<(0:Int))))||(decide (p0.N>(1099511627776:Int))))||(decide ((p0.Tuples.length:Int)>p0.Cap))) (
  some (2:Int))<|
 cond (p0.N==(0:Int)) (
  cond (decide ((p0.Tuples.length:Int)>(0:Int))) (
   some (2:Int))<|
  some (0:Int))<|
 cond ((p0.Tuples.length:Int)==(0:Int)) (
  some (2:Int))<|
 Option.bind (summary_most p0.N p0.K) fun a=>
 summary_Validate_l6 p0 a (0:Int) (0:Int)
noncomputable def synopsis_right (p0:api_Synopsis):Option Bool:=
 cond (p0.Config.Kind==(1:Int)) (
  Option.bind (recent_Validate p0.Recent) fun l=>
  some (((l==(0:Int))&&(p0.Recent.W==p0.Config.W))&&(p0.Recent.Cap==p0.Config.Cap)))<|
 cond (p0.Config.Kind==(2:Int)) (
  Option.bind (count_Validate p0.Count) fun m=>
  some ((((m==(0:Int))&&(p0.Count.W==p0.Config.W))&&(p0.Count.K==p0.Config.K))&&(p0.Count.Cap==p0.Config.Cap)))<|
 cond (p0.Config.Kind==(3:Int)) (
  Option.bind (sum_Validate p0.Sum) fun d=>
  some (((((d==(0:Int))&&(p0.Sum.W==p0.Config.W))&&(p0.Sum.K==p0.Config.K))&&(p0.Sum.Cap==p0.Config.Cap))&&(p0.Sum.Max==p0.Config.Max)))<|
 cond (p0.Config.Kind==(4:Int)) (
  Option.bind (smooth_Validate p0.Smooth) fun e=>
  some (((((e==(0:Int))&&(p0.Smooth.W==p0.Config.W))&&(p0.Smooth.K==p0.Config.K))&&(p0.Smooth.Cap==p0.Config.Cap))&&(p0.Smooth.Agg==p0.Config.Agg)))<|
 cond (p0.Config.Kind==(5:Int)) (
  Option.bind (spread_Validate p0.Spread) fun f=>
  some ((((f==(0:Int))&&(p0.Spread.W==p0.Config.W))&&(p0.Spread.K==p0.Config.K))&&(p0.Spread.Cap==p0.Config.Cap)))<|
 cond (p0.Config.Kind==(6:Int)) (
  Option.bind (poly_Validate p0.Poly) fun g=>
  some ((g==(0:Int))&&(p0.Poly.P==p0.Config.P)))<|
 cond (p0.Config.Kind==(7:Int)) (
  Option.bind (halve_Validate p0.Halve) fun h=>
  some ((h==(0:Int))&&((p0.Halve.Sums.length:Int)==p0.Config.W)))<|
 cond (p0.Config.Kind==(8:Int)) (
  Option.bind (extreme_Validate p0.Extreme) fun i=>
  some ((((i==(0:Int))&&(p0.Extreme.W==p0.Config.W))&&(p0.Extreme.Cap==p0.Config.Cap))&&(p0.Extreme.Max==(p0.Config.Max==(1:Int)))))<|
 cond (p0.Config.Kind==(9:Int)) (
  Option.bind (sample_Validate p0.Sample) fun a=>
  Option.bind (gd ((a==(0:Int))&&((p0.Sample.Chains.length:Int)==p0.Config.Chains)) (idx p0.Sample.Chains (0:Int))) fun b=>
  Option.bind (gd (((a==(0:Int))&&((p0.Sample.Chains.length:Int)==p0.Config.Chains))&&(b.W==p0.Config.W)) (idx p0.Sample.Chains (0:Int))) fun c=>
  some ((((a==(0:Int))&&((p0.Sample.Chains.length:Int)==p0.Config.Chains))&&(b.W==p0.Config.W))&&(c.Cap==p0.Config.Cap)))<|
 cond (p0.Config.Kind==(10:Int)) (
  Option.bind (summary_Validate p0.Summary) fun j=>
  some (((j==(0:Int))&&(p0.Summary.K==p0.Config.K))&&(p0.Summary.Cap==p0.Config.Cap)))<|
 Option.bind (quantile_Validate p0.Quantile) fun k=>
 some ((((k==(0:Int))&&(p0.Quantile.W==p0.Config.W))&&(p0.Quantile.K==p0.Config.K))&&(p0.Quantile.Cap==p0.Config.Cap))
noncomputable def synopsis_Validate (p0:api_Synopsis):Option Int:=
 let a:=(config_Validate p0.Config);
 Option.bind (gd (!(a !=(0:Int))) (synopsis_right p0)) fun c=>
 let b:=(synopsis_others p0);
 cond (((a !=(0:Int))||(!c))||(!b)) (
  some (2:Int))<|
 some (0:Int)
noncomputable def registry_Valid_l3s (p0:(List api_Record)) (a:Int):Option (Int⊕Bool):=
 cond (decide (a<(p0.length:Int))) (
  Option.bind (idx p0 a) fun b=>
  Option.bind (gd ((!((decide (b.ID<(0:Int)))||(decide (b.ID>(1048576:Int)))))&&(decide (a>(0:Int)))) (idx p0 (w64 (a-(1:Int))))) fun c=>
  Option.bind (gd (!(((decide (b.ID<(0:Int)))||(decide (b.ID>(1048576:Int))))||((decide (a>(0:Int)))&&(decide (c.ID≥b.ID))))) (synopsis_Validate b.Synopsis)) fun d=>
  cond ((((decide (b.ID<(0:Int)))||(decide (b.ID>(1048576:Int))))||((decide (a>(0:Int)))&&(decide (c.ID≥b.ID))))||(d !=(0:Int))) (
   some (.inr false))<|
  some (.inl (w64 (a+(1:Int)))))<|
 Option.map Sum.inr (some true)
noncomputable def registry_Valid_l3 (p0:(List api_Record)) (a:Int):Option Bool:=
 loop (fun (s:Int)=>registry_Valid_l3s p0 s) a
noncomputable def registry_Valid (p0:(List api_Record)) (p1:Int):Option Bool:=
 cond (((decide (p1<(1:Int)))||(decide (p1>(64:Int))))||(decide ((p0.length:Int)>p1))) (
  some false)<|
 registry_Valid_l3 p0 (0:Int)
noncomputable def snapshot_clock (p0:api_Synopsis):(Int×Bool):=
 cond (p0.Config.Kind==(1:Int)) (
  (p0.Recent.Now,true))<|
 cond (p0.Config.Kind==(2:Int)) (
  (p0.Count.Now,true))<|
 cond (p0.Config.Kind==(3:Int)) (
  (p0.Sum.Now,true))<|
 cond (p0.Config.Kind==(4:Int)) (
  (p0.Smooth.Now,true))<|
 cond (p0.Config.Kind==(5:Int)) (
  (p0.Spread.Now,true))<|
 cond (p0.Config.Kind==(6:Int)) (
  (p0.Poly.Now,true))<|
 cond (p0.Config.Kind==(7:Int)) (
  (p0.Halve.Now,true))<|
 cond (p0.Config.Kind==(8:Int)) (
  (p0.Extreme.Now,true))<|
 cond (p0.Config.Kind==(11:Int)) (
  (p0.Quantile.Now,true))<|
 ((0:Int),false)
noncomputable def snapshot_Validate_l3s (p0:api_Engine) (a:Int):Option (Int⊕Int):=
 cond (decide (a<(p0.Records.length:Int))) (
  Option.bind (idx p0.Records a) fun c=>
  let b:=(snapshot_clock c.Synopsis);
  cond (b.2&&(b.1 !=p0.Now)) (
   some (.inr (2:Int)))<|
  some (.inl (w64 (a+(1:Int)))))<|
 Option.map Sum.inr (some (0:Int))
noncomputable def snapshot_Validate_l3 (p0:api_Engine) (a:Int):Option Int:=
 loop (fun (s:Int)=>snapshot_Validate_l3s p0 s) a
noncomputable def snapshot_Validate (p0:api_Engine):Option Int:=
 Option.bind (gd (!((decide (p0.Now<(0:Int)))||(decide (p0.Now>(16777216:Int))))) (registry_Valid p0.Records p0.Limit)) fun a=>
 cond (((decide (p0.Now<(0:Int)))||(decide (p0.Now>(16777216:Int))))||(!a)) (
  some (2:Int))<|
 snapshot_Validate_l3 p0 (0:Int)
noncomputable def tape_Append_i3_l3s (b:(List Int)) (a:Int):Option (((List Int)×Int)⊕(List Int)):=
 cond (decide (a≥(128:Int))) (
  ck (decide ((b.length+ [(ior .u8 (IntKind.u8.wrap a) (128:Int))].length)*1≤140737488355328))<|
  some (.inl ((b++ [(ior .u8 (IntKind.u8.wrap a) (128:Int))]),(ishr .u64 a (7:Int)))))<|
 Option.map Sum.inr (ck (decide ((b.length+ [(IntKind.u8.wrap a)].length)*1≤140737488355328))<|
 some (b++ [(IntKind.u8.wrap a)]))
noncomputable def tape_Append_i3_l3 (a:(List Int)) (b:Int):Option (List Int):=
 loop (fun (s:((List Int)×Int))=>tape_Append_i3_l3s s.1 s.2) (a,b)
noncomputable def tape_Append_i3_j1 (p0:(List Int)) (a:Int):Option (List Int):=
 tape_Append_i3_l3 p0 a
noncomputable def tape_Append_i3 (p0:(List Int)) (p1:Int):Option (List Int):=
 cond (decide (p1<(0:Int))) (
  tape_Append_i3_j1 p0 (inot .u64 (ishl .u64 (wu64 p1) (1:Int))))<|
 tape_Append_i3_j1 p0 (ishl .u64 (wu64 p1) (1:Int))
noncomputable def tape_Tape_Int_i6 (b0_0:(List Int)) (b0_1:Int) (b0_3:Bool) (b1:Int):Option (List Int):=
 Option.bind (tape_Append_i3 b0_0 b1) fun a=>
 some a
noncomputable def tape_Tape_Small_i5 (b0_0:(List Int)) (b0_1:Int) (b0_3:Bool) (b1:Int):Option (List Int):=
 Option.bind (tape_Tape_Int_i6 b0_0 b0_1 b0_3 b1) fun a=>
 some a
noncomputable def snapshot_buckets_1_i2 (b0:api_Bucket) (b2_0:(List Int)) (b2_1:Int) (b2_3:Bool):Option (List Int):=
 Option.bind (tape_Tape_Int_i6 b2_0 b2_1 b2_3 b0.T) fun a=>
 Option.bind (tape_Tape_Small_i5 a b2_1 b2_3 b0.Level) fun b=>
 some b
noncomputable def tape_Tape_Within_i6 (p2:Int) (p3:Int) (b0_0:(List Int)) (b0_1:Int) (b0_3:Bool) (b1:Int):Option (List Int):=
 Option.bind (tape_Tape_Int_i6 b0_0 b0_1 b0_3 b1) fun a=>
 some a
noncomputable def tape_List_api_Bucket__i4_l3s (b0_1:Int) (b0_3:Bool) (b1:(List api_Bucket)) (b:Int) (a:(List Int)):Option ((Int×(List Int))⊕(List Int)):=
 cond (decide (b<(b1.length:Int))) (
  Option.bind (idx b1 b) fun c=>
  Option.bind (snapshot_buckets_1_i2 c a b0_1 b0_3) fun d=>
  some (.inl ((w64 (b+(1:Int))),d)))<|
 Option.map Sum.inr (some a)
noncomputable def tape_List_api_Bucket__i4_l3 (b0_1:Int) (b0_3:Bool) (b1:(List api_Bucket)) (b:Int) (a:(List Int)):Option (List Int):=
 loop (fun (s:(Int×(List Int)))=>tape_List_api_Bucket__i4_l3s b0_1 b0_3 b1 s.1 s.2) (b,a)
noncomputable def tape_List_api_Bucket__i4 (b0_0:(List Int)) (b0_1:Int) (b0_3:Bool) (b1:(List api_Bucket)):Option (List Int):=
 Option.bind (tape_Tape_Within_i6 (0:Int) (w64 ((b0_0.length:Int)-b0_1)) b0_0 b0_1 b0_3 (b1.length:Int)) fun a=>
 tape_List_api_Bucket__i4_l3 b0_1 b0_3 b1 (0:Int) a
noncomputable def snapshot_buckets_i2 (b0_0:(List Int)) (b0_1:Int) (b0_3:Bool) (b1:(List api_Bucket)):Option (List Int):=
 Option.bind (tape_List_api_Bucket__i4 b0_0 b0_1 b0_3 b1) fun a=>
 some a
noncomputable def snapshot_items_1_i2 (b0:api_Item) (b2_0:(List Int)) (b2_1:Int) (b2_3:Bool):Option (List Int):=
 Option.bind (tape_Tape_Int_i6 b2_0 b2_1 b2_3 b0.T) fun a=>
 Option.bind (tape_Tape_Int_i6 a b2_1 b2_3 b0.V) fun b=>
 some b
noncomputable def tape_List_api_Item__i4_l3s (b0_1:Int) (b0_3:Bool) (b1:(List api_Item)) (b:Int) (a:(List Int)):Option ((Int×(List Int))⊕(List Int)):=
 cond (decide (b<(b1.length:Int))) (
  Option.bind (idx b1 b) fun c=>
  Option.bind (snapshot_items_1_i2 c a b0_1 b0_3) fun d=>
  some (.inl ((w64 (b+(1:Int))),d)))<|
 Option.map Sum.inr (some a)
noncomputable def tape_List_api_Item__i4_l3 (b0_1:Int) (b0_3:Bool) (b1:(List api_Item)) (b:Int) (a:(List Int)):Option (List Int):=
 loop (fun (s:(Int×(List Int)))=>tape_List_api_Item__i4_l3s b0_1 b0_3 b1 s.1 s.2) (b,a)
noncomputable def tape_List_api_Item__i4 (b0_0:(List Int)) (b0_1:Int) (b0_3:Bool) (b1:(List api_Item)):Option (List Int):=
 Option.bind (tape_Tape_Within_i6 (0:Int) (w64 ((b0_0.length:Int)-b0_1)) b0_0 b0_1 b0_3 (b1.length:Int)) fun a=>
 tape_List_api_Item__i4_l3 b0_1 b0_3 b1 (0:Int) a
noncomputable def snapshot_items_i2 (b0_0:(List Int)) (b0_1:Int) (b0_3:Bool) (b1:(List api_Item)):Option (List Int):=
 Option.bind (tape_List_api_Item__i4 b0_0 b0_1 b0_3 b1) fun a=>
 some a
noncomputable def snapshot_marks_1_i2 (b0:api_Mark) (b2_0:(List Int)) (b2_1:Int) (b2_3:Bool):Option (List Int):=
 Option.bind (tape_Tape_Int_i6 b2_0 b2_1 b2_3 b0.Seq) fun a=>
 Option.bind (tape_Tape_Int_i6 a b2_1 b2_3 b0.T) fun b=>
 Option.bind (tape_Tape_Int_i6 b b2_1 b2_3 b0.N) fun c=>
 Option.bind (tape_Tape_Int_i6 c b2_1 b2_3 b0.S) fun d=>
 Option.bind (tape_Tape_Int_i6 d b2_1 b2_3 b0.Q) fun e=>
 Option.bind (tape_Tape_Int_i6 e b2_1 b2_3 b0.Min) fun f=>
 Option.bind (tape_Tape_Int_i6 f b2_1 b2_3 b0.Max) fun g=>
 some g
noncomputable def tape_List_api_Mark__i4_l3s (b0_1:Int) (b0_3:Bool) (b1:(List api_Mark)) (b:Int) (a:(List Int)):Option ((Int×(List Int))⊕(List Int)):=
 cond (decide (b<(b1.length:Int))) (
  Option.bind (idx b1 b) fun c=>
  Option.bind (snapshot_marks_1_i2 c a b0_1 b0_3) fun d=>
  some (.inl ((w64 (b+(1:Int))),d)))<|
 Option.map Sum.inr (some a)
noncomputable def tape_List_api_Mark__i4_l3 (b0_1:Int) (b0_3:Bool) (b1:(List api_Mark)) (b:Int) (a:(List Int)):Option (List Int):=
 loop (fun (s:(Int×(List Int)))=>tape_List_api_Mark__i4_l3s b0_1 b0_3 b1 s.1 s.2) (b,a)
noncomputable def tape_List_api_Mark__i4 (b0_0:(List Int)) (b0_1:Int) (b0_3:Bool) (b1:(List api_Mark)):Option (List Int):=
 Option.bind (tape_Tape_Within_i6 (0:Int) (w64 ((b0_0.length:Int)-b0_1)) b0_0 b0_1 b0_3 (b1.length:Int)) fun a=>
 tape_List_api_Mark__i4_l3 b0_1 b0_3 b1 (0:Int) a
noncomputable def snapshot_marks_i2 (b0_0:(List Int)) (b0_1:Int) (b0_3:Bool) (b1:(List api_Mark)):Option (List Int):=
 Option.bind (tape_List_api_Mark__i4 b0_0 b0_1 b0_3 b1) fun a=>
 some a
noncomputable def snapshot_block_1_i2 (b0:api_Entry) (b2_0:(List Int)) (b2_1:Int) (b2_3:Bool):Option (List Int):=
 Option.bind (tape_Tape_Int_i6 b2_0 b2_1 b2_3 b0.V) fun a=>
 Option.bind (tape_Tape_Int_i6 a b2_1 b2_3 b0.Min) fun b=>
 Option.bind (tape_Tape_Int_i6 b b2_1 b2_3 b0.Max) fun c=>
 some c
noncomputable def tape_List_api_Entry__i2_l3s (b0_1:Int) (b0_3:Bool) (b1:(List api_Entry)) (b:Int) (a:(List Int)):Option ((Int×(List Int))⊕(List Int)):=
 cond (decide (b<(b1.length:Int))) (
  Option.bind (idx b1 b) fun c=>
  Option.bind (snapshot_block_1_i2 c a b0_1 b0_3) fun d=>
  some (.inl ((w64 (b+(1:Int))),d)))<|
 Option.map Sum.inr (some a)
noncomputable def tape_List_api_Entry__i2_l3 (b0_1:Int) (b0_3:Bool) (b1:(List api_Entry)) (b:Int) (a:(List Int)):Option (List Int):=
 loop (fun (s:(Int×(List Int)))=>tape_List_api_Entry__i2_l3s b0_1 b0_3 b1 s.1 s.2) (b,a)
noncomputable def tape_List_api_Entry__i2 (b0_0:(List Int)) (b0_1:Int) (b0_3:Bool) (b1:(List api_Entry)):Option (List Int):=
 Option.bind (tape_Tape_Within_i6 (0:Int) (w64 ((b0_0.length:Int)-b0_1)) b0_0 b0_1 b0_3 (b1.length:Int)) fun a=>
 tape_List_api_Entry__i2_l3 b0_1 b0_3 b1 (0:Int) a
noncomputable def snapshot_block_i2 (b0_0:(List Int)) (b0_1:Int) (b0_3:Bool) (b1:api_Block):Option (List Int):=
 Option.bind (tape_Tape_Int_i6 b0_0 b0_1 b0_3 b1.T) fun a=>
 Option.bind (tape_Tape_Int_i6 a b0_1 b0_3 b1.Last) fun b=>
 Option.bind (tape_Tape_Small_i5 b b0_1 b0_3 b1.Level) fun c=>
 Option.bind (tape_Tape_Int_i6 c b0_1 b0_3 b1.Ranks.N) fun d=>
 Option.bind (tape_List_api_Entry__i2 d b0_1 b0_3 b1.Ranks.Entries) fun e=>
 some e
noncomputable def snapshot_state_3_i2 (b0:api_Block) (b2_0:(List Int)) (b2_1:Int) (b2_3:Bool):Option (List Int):=
 Option.bind (snapshot_block_i2 b2_0 b2_1 b2_3 (api_Block.mk b0.T b0.Last b0.Level b0.Ranks)) fun a=>
 some a
noncomputable def tape_List_api_Block__i2_l3s (b0_1:Int) (b0_3:Bool) (b1:(List api_Block)) (b:Int) (a:(List Int)):Option ((Int×(List Int))⊕(List Int)):=
 cond (decide (b<(b1.length:Int))) (
  Option.bind (idx b1 b) fun c=>
  Option.bind (snapshot_state_3_i2 c a b0_1 b0_3) fun d=>
  some (.inl ((w64 (b+(1:Int))),d)))<|
 Option.map Sum.inr (some a)
noncomputable def tape_List_api_Block__i2_l3 (b0_1:Int) (b0_3:Bool) (b1:(List api_Block)) (b:Int) (a:(List Int)):Option (List Int):=
 loop (fun (s:(Int×(List Int)))=>tape_List_api_Block__i2_l3s b0_1 b0_3 b1 s.1 s.2) (b,a)
noncomputable def tape_List_api_Block__i2 (b0_0:(List Int)) (b0_1:Int) (b0_3:Bool) (b1:(List api_Block)):Option (List Int):=
 Option.bind (tape_Tape_Within_i6 (0:Int) (w64 ((b0_0.length:Int)-b0_1)) b0_0 b0_1 b0_3 (b1.length:Int)) fun a=>
 tape_List_api_Block__i2_l3 b0_1 b0_3 b1 (0:Int) a
noncomputable def snapshot_chain_1_i2 (b0:api_Link) (b2_0:(List Int)) (b2_1:Int) (b2_3:Bool):Option (List Int):=
 Option.bind (tape_Tape_Int_i6 b2_0 b2_1 b2_3 b0.I) fun a=>
 Option.bind (tape_Tape_Int_i6 a b2_1 b2_3 b0.V) fun b=>
 some b
noncomputable def tape_List_api_Link__i2_l3s (b0_1:Int) (b0_3:Bool) (b1:(List api_Link)) (b:Int) (a:(List Int)):Option ((Int×(List Int))⊕(List Int)):=
 cond (decide (b<(b1.length:Int))) (
  Option.bind (idx b1 b) fun c=>
  Option.bind (snapshot_chain_1_i2 c a b0_1 b0_3) fun d=>
  some (.inl ((w64 (b+(1:Int))),d)))<|
 Option.map Sum.inr (some a)
noncomputable def tape_List_api_Link__i2_l3 (b0_1:Int) (b0_3:Bool) (b1:(List api_Link)) (b:Int) (a:(List Int)):Option (List Int):=
 loop (fun (s:(Int×(List Int)))=>tape_List_api_Link__i2_l3s b0_1 b0_3 b1 s.1 s.2) (b,a)
noncomputable def tape_List_api_Link__i2 (b0_0:(List Int)) (b0_1:Int) (b0_3:Bool) (b1:(List api_Link)):Option (List Int):=
 Option.bind (tape_Tape_Within_i6 (0:Int) (w64 ((b0_0.length:Int)-b0_1)) b0_0 b0_1 b0_3 (b1.length:Int)) fun a=>
 tape_List_api_Link__i2_l3 b0_1 b0_3 b1 (0:Int) a
noncomputable def snapshot_chain_i2 (b0_0:(List Int)) (b0_1:Int) (b0_3:Bool) (b1:api_Chain):Option (List Int):=
 Option.bind (tape_Tape_Int_i6 b0_0 b0_1 b0_3 b1.W) fun a=>
 Option.bind (tape_Tape_Small_i5 a b0_1 b0_3 b1.Cap) fun b=>
 Option.bind (tape_Tape_Int_i6 b b0_1 b0_3 b1.I) fun c=>
 Option.bind (tape_Tape_Int_i6 c b0_1 b0_3 b1.Next) fun d=>
 Option.bind (tape_List_api_Link__i2 d b0_1 b0_3 b1.Links) fun e=>
 some e
noncomputable def snapshot_state_1_i2 (b0:api_Chain) (b2_0:(List Int)) (b2_1:Int) (b2_3:Bool):Option (List Int):=
 Option.bind (snapshot_chain_i2 b2_0 b2_1 b2_3 (api_Chain.mk b0.W b0.Cap b0.I b0.Next b0.Links)) fun a=>
 some a
noncomputable def tape_List_api_Chain__i2_l3s (b0_1:Int) (b0_3:Bool) (b1:(List api_Chain)) (b:Int) (a:(List Int)):Option ((Int×(List Int))⊕(List Int)):=
 cond (decide (b<(b1.length:Int))) (
  Option.bind (idx b1 b) fun c=>
  Option.bind (snapshot_state_1_i2 c a b0_1 b0_3) fun d=>
  some (.inl ((w64 (b+(1:Int))),d)))<|
 Option.map Sum.inr (some a)
noncomputable def tape_List_api_Chain__i2_l3 (b0_1:Int) (b0_3:Bool) (b1:(List api_Chain)) (b:Int) (a:(List Int)):Option (List Int):=
 loop (fun (s:(Int×(List Int)))=>tape_List_api_Chain__i2_l3s b0_1 b0_3 b1 s.1 s.2) (b,a)
noncomputable def tape_List_api_Chain__i2 (b0_0:(List Int)) (b0_1:Int) (b0_3:Bool) (b1:(List api_Chain)):Option (List Int):=
 Option.bind (tape_Tape_Within_i6 (0:Int) (w64 ((b0_0.length:Int)-b0_1)) b0_0 b0_1 b0_3 (b1.length:Int)) fun a=>
 tape_List_api_Chain__i2_l3 b0_1 b0_3 b1 (0:Int) a
noncomputable def snapshot_state_2_i2 (b0:api_Tuple) (b2_0:(List Int)) (b2_1:Int) (b2_3:Bool):Option (List Int):=
 Option.bind (tape_Tape_Int_i6 b2_0 b2_1 b2_3 b0.V) fun a=>
 Option.bind (tape_Tape_Int_i6 a b2_1 b2_3 b0.G) fun b=>
 Option.bind (tape_Tape_Int_i6 b b2_1 b2_3 b0.D) fun c=>
 some c
noncomputable def tape_List_api_Tuple__i2_l3s (b0_1:Int) (b0_3:Bool) (b1:(List api_Tuple)) (b:Int) (a:(List Int)):Option ((Int×(List Int))⊕(List Int)):=
 cond (decide (b<(b1.length:Int))) (
  Option.bind (idx b1 b) fun c=>
  Option.bind (snapshot_state_2_i2 c a b0_1 b0_3) fun d=>
  some (.inl ((w64 (b+(1:Int))),d)))<|
 Option.map Sum.inr (some a)
noncomputable def tape_List_api_Tuple__i2_l3 (b0_1:Int) (b0_3:Bool) (b1:(List api_Tuple)) (b:Int) (a:(List Int)):Option (List Int):=
 loop (fun (s:(Int×(List Int)))=>tape_List_api_Tuple__i2_l3s b0_1 b0_3 b1 s.1 s.2) (b,a)
noncomputable def tape_List_api_Tuple__i2 (b0_0:(List Int)) (b0_1:Int) (b0_3:Bool) (b1:(List api_Tuple)):Option (List Int):=
 Option.bind (tape_Tape_Within_i6 (0:Int) (w64 ((b0_0.length:Int)-b0_1)) b0_0 b0_1 b0_3 (b1.length:Int)) fun a=>
 tape_List_api_Tuple__i2_l3 b0_1 b0_3 b1 (0:Int) a
noncomputable def tape_Tape_Word_i4 (b0_0:(List Int)) (b0_1:Int) (b0_3:Bool) (b1:Int):Option (Int×(List Int)):=
 Option.bind (tape_Tape_Int_i6 b0_0 b0_1 b0_3 (w64 b1)) fun a=>
 some ((wu64 (w64 b1)),a)
noncomputable def tape_Tape_Wide_i3 (b0_0:(List Int)) (b0_1:Int) (b0_3:Bool) (b1:api_Wide):Option (api_Wide×(List Int)):=
 Option.bind (tape_Tape_Word_i4 b0_0 b0_1 b0_3 b1.Hi) fun a=>
 Option.bind (tape_Tape_Word_i4 a.2 b0_1 b0_3 b1.Lo) fun b=>
 some ((api_Wide.mk a.1 b.1),b.2)
noncomputable def tape_List_api_Wide__i2_l3s (b0_1:Int) (b0_3:Bool) (b1:(List api_Wide)) (b:Int) (a:(List Int)):Option ((Int×(List Int))⊕(List Int)):=
 cond (decide (b<(b1.length:Int))) (
  Option.bind (idx b1 b) fun c=>
  Option.bind (tape_Tape_Wide_i3 a b0_1 b0_3 c) fun d=>
  some (.inl ((w64 (b+(1:Int))),d.2)))<|
 Option.map Sum.inr (some a)
noncomputable def tape_List_api_Wide__i2_l3 (b0_1:Int) (b0_3:Bool) (b1:(List api_Wide)) (b:Int) (a:(List Int)):Option (List Int):=
 loop (fun (s:(Int×(List Int)))=>tape_List_api_Wide__i2_l3s b0_1 b0_3 b1 s.1 s.2) (b,a)
noncomputable def tape_List_api_Wide__i2 (b0_0:(List Int)) (b0_1:Int) (b0_3:Bool) (b1:(List api_Wide)):Option (List Int):=
 Option.bind (tape_Tape_Within_i6 (0:Int) (w64 ((b0_0.length:Int)-b0_1)) b0_0 b0_1 b0_3 (b1.length:Int)) fun a=>
 tape_List_api_Wide__i2_l3 b0_1 b0_3 b1 (0:Int) a
noncomputable def tape_Tape_Bool_i2_j1 (b0_0:(List Int)) (b0_1:Int) (b0_3:Bool) (a:Int):Option (Bool×(List Int)):=
 Option.bind (tape_Tape_Within_i6 (0:Int) (1:Int) b0_0 b0_1 b0_3 a) fun b=>
 some ((a==(1:Int)),b)
noncomputable def tape_Tape_Bool_i2 (b0_0:(List Int)) (b0_1:Int) (b0_3:Bool) (b1:Bool):Option (Bool×(List Int)):=
 cond b1 (
  tape_Tape_Bool_i2_j1 b0_0 b0_1 b0_3 (1:Int))<|
 tape_Tape_Bool_i2_j1 b0_0 b0_1 b0_3 (0:Int)
noncomputable def tape_List_int64__i5_l3s (b0_1:Int) (b0_3:Bool) (b1:(List Int)) (b:Int) (a:(List Int)):Option ((Int×(List Int))⊕(List Int)):=
 cond (decide (b<(b1.length:Int))) (
  Option.bind (idx b1 b) fun c=>
  Option.bind (tape_Tape_Int_i6 a b0_1 b0_3 c) fun d=>
  some (.inl ((w64 (b+(1:Int))),d)))<|
 Option.map Sum.inr (some a)
noncomputable def tape_List_int64__i5_l3 (b0_1:Int) (b0_3:Bool) (b1:(List Int)) (b:Int) (a:(List Int)):Option (List Int):=
 loop (fun (s:(Int×(List Int)))=>tape_List_int64__i5_l3s b0_1 b0_3 b1 s.1 s.2) (b,a)
noncomputable def tape_List_int64__i5 (b0_0:(List Int)) (b0_1:Int) (b0_3:Bool) (b1:(List Int)):Option (List Int):=
 Option.bind (tape_Tape_Within_i6 (0:Int) (w64 ((b0_0.length:Int)-b0_1)) b0_0 b0_1 b0_3 (b1.length:Int)) fun a=>
 tape_List_int64__i5_l3 b0_1 b0_3 b1 (0:Int) a
noncomputable def tape_Tape_Ints_i3 (b0_0:(List Int)) (b0_1:Int) (b0_3:Bool) (b1:(List Int)):Option (List Int):=
 Option.bind (tape_List_int64__i5 b0_0 b0_1 b0_3 b1) fun a=>
 some a
noncomputable def snapshot_state_i2 (b0_0:(List Int)) (b0_1:Int) (b0_3:Bool) (b1:api_Synopsis):Option (Bool×api_Synopsis×(List Int)):=
 cond (b1.Config.Kind==(1:Int)) (
  Option.bind (tape_Tape_Int_i6 b0_0 b0_1 b0_3 b1.Recent.W) fun X=>
  Option.bind (tape_Tape_Small_i5 X b0_1 b0_3 b1.Recent.Cap) fun Y=>
  Option.bind (tape_Tape_Int_i6 Y b0_1 b0_3 b1.Recent.Now) fun Z=>
  Option.bind (snapshot_items_i2 Z b0_1 b0_3 b1.Recent.Items) fun a0=>
  some (b0_3,(api_Synopsis.mk b1.Config b1.Recent b1.Count b1.Sum b1.Smooth b1.Spread b1.Poly b1.Halve b1.Extreme b1.Sample b1.Summary b1.Quantile),a0))<|
 cond (b1.Config.Kind==(2:Int)) (
  Option.bind (tape_Tape_Int_i6 b0_0 b0_1 b0_3 b1.Count.W) fun b=>
  Option.bind (tape_Tape_Small_i5 b b0_1 b0_3 b1.Count.K) fun c=>
  Option.bind (tape_Tape_Small_i5 c b0_1 b0_3 b1.Count.Cap) fun d=>
  Option.bind (tape_Tape_Int_i6 d b0_1 b0_3 b1.Count.Now) fun e=>
  Option.bind (snapshot_buckets_i2 e b0_1 b0_3 b1.Count.Buckets) fun f=>
  some (b0_3,(api_Synopsis.mk b1.Config b1.Recent b1.Count b1.Sum b1.Smooth b1.Spread b1.Poly b1.Halve b1.Extreme b1.Sample b1.Summary b1.Quantile),f))<|
 cond (b1.Config.Kind==(3:Int)) (
  Option.bind (tape_Tape_Int_i6 b0_0 b0_1 b0_3 b1.Sum.W) fun g=>
  Option.bind (tape_Tape_Small_i5 g b0_1 b0_3 b1.Sum.K) fun h=>
  Option.bind (tape_Tape_Small_i5 h b0_1 b0_3 b1.Sum.Cap) fun i=>
  Option.bind (tape_Tape_Small_i5 i b0_1 b0_3 b1.Sum.Max) fun j=>
  Option.bind (tape_Tape_Int_i6 j b0_1 b0_3 b1.Sum.Now) fun k=>
  Option.bind (snapshot_buckets_i2 k b0_1 b0_3 b1.Sum.Buckets) fun l=>
  some (b0_3,(api_Synopsis.mk b1.Config b1.Recent b1.Count b1.Sum b1.Smooth b1.Spread b1.Poly b1.Halve b1.Extreme b1.Sample b1.Summary b1.Quantile),l))<|
 cond (b1.Config.Kind==(4:Int)) (
  Option.bind (tape_Tape_Small_i5 b0_0 b0_1 b0_3 b1.Smooth.Agg) fun m=>
  Option.bind (tape_Tape_Int_i6 m b0_1 b0_3 b1.Smooth.W) fun n=>
  Option.bind (tape_Tape_Small_i5 n b0_1 b0_3 b1.Smooth.K) fun o=>
  Option.bind (tape_Tape_Small_i5 o b0_1 b0_3 b1.Smooth.Cap) fun p=>
  Option.bind (tape_Tape_Int_i6 p b0_1 b0_3 b1.Smooth.Now) fun q=>
  Option.bind (tape_Tape_Int_i6 q b0_1 b0_3 b1.Smooth.Seq) fun r=>
  Option.bind (snapshot_marks_i2 r b0_1 b0_3 b1.Smooth.Marks) fun s=>
  some (b0_3,(api_Synopsis.mk b1.Config b1.Recent b1.Count b1.Sum b1.Smooth b1.Spread b1.Poly b1.Halve b1.Extreme b1.Sample b1.Summary b1.Quantile),s))<|
 cond (b1.Config.Kind==(5:Int)) (
  Option.bind (tape_Tape_Int_i6 b0_0 b0_1 b0_3 b1.Spread.W) fun t=>
  Option.bind (tape_Tape_Small_i5 t b0_1 b0_3 b1.Spread.K) fun u=>
  Option.bind (tape_Tape_Small_i5 u b0_1 b0_3 b1.Spread.Cap) fun v=>
  Option.bind (tape_Tape_Int_i6 v b0_1 b0_3 b1.Spread.Now) fun w=>
  Option.bind (tape_Tape_Int_i6 w b0_1 b0_3 b1.Spread.Seq) fun x=>
  Option.bind (snapshot_marks_i2 x b0_1 b0_3 b1.Spread.Marks) fun y=>
  some (b0_3,(api_Synopsis.mk b1.Config b1.Recent b1.Count b1.Sum b1.Smooth b1.Spread b1.Poly b1.Halve b1.Extreme b1.Sample b1.Summary b1.Quantile),y))<|
 cond (b1.Config.Kind==(6:Int)) (
  Option.bind (tape_Tape_Small_i5 b0_0 b0_1 b0_3 b1.Poly.P) fun z=>
  Option.bind (tape_Tape_Int_i6 z b0_1 b0_3 b1.Poly.Land) fun A=>
  Option.bind (tape_Tape_Int_i6 A b0_1 b0_3 b1.Poly.Now) fun B=>
  Option.bind (tape_List_api_Wide__i2 B b0_1 b0_3 b1.Poly.Moments) fun C=>
  some (b0_3,(api_Synopsis.mk b1.Config b1.Recent b1.Count b1.Sum b1.Smooth b1.Spread b1.Poly b1.Halve b1.Extreme b1.Sample b1.Summary b1.Quantile),C))<|
 cond (b1.Config.Kind==(7:Int)) (
  Option.bind (tape_Tape_Int_i6 b0_0 b0_1 b0_3 b1.Halve.Now) fun D=>
  Option.bind (tape_Tape_Ints_i3 D b0_1 b0_3 b1.Halve.Sums) fun E=>
  some (b0_3,(api_Synopsis.mk b1.Config b1.Recent b1.Count b1.Sum b1.Smooth b1.Spread b1.Poly b1.Halve b1.Extreme b1.Sample b1.Summary b1.Quantile),E))<|
 cond (b1.Config.Kind==(8:Int)) (
  Option.bind (tape_Tape_Bool_i2 b0_0 b0_1 b0_3 b1.Extreme.Max) fun a=>
  Option.bind (tape_Tape_Int_i6 a.2 b0_1 b0_3 b1.Extreme.W) fun F=>
  Option.bind (tape_Tape_Small_i5 F b0_1 b0_3 b1.Extreme.Cap) fun G=>
  Option.bind (tape_Tape_Int_i6 G b0_1 b0_3 b1.Extreme.Now) fun H=>
  Option.bind (snapshot_items_i2 H b0_1 b0_3 b1.Extreme.Items) fun I=>
  some (b0_3,(api_Synopsis.mk b1.Config b1.Recent b1.Count b1.Sum b1.Smooth b1.Spread b1.Poly b1.Halve (api_Extreme.mk a.1 b1.Extreme.W b1.Extreme.Cap b1.Extreme.Now b1.Extreme.Items) b1.Sample b1.Summary b1.Quantile),I))<|
 cond (b1.Config.Kind==(9:Int)) (
  Option.bind (tape_List_api_Chain__i2 b0_0 b0_1 b0_3 b1.Sample.Chains) fun J=>
  some (b0_3,(api_Synopsis.mk b1.Config b1.Recent b1.Count b1.Sum b1.Smooth b1.Spread b1.Poly b1.Halve b1.Extreme b1.Sample b1.Summary b1.Quantile),J))<|
 cond (b1.Config.Kind==(10:Int)) (
  Option.bind (tape_Tape_Small_i5 b0_0 b0_1 b0_3 b1.Summary.K) fun L=>
  Option.bind (tape_Tape_Small_i5 L b0_1 b0_3 b1.Summary.Cap) fun M=>
  Option.bind (tape_Tape_Int_i6 M b0_1 b0_3 b1.Summary.N) fun O=>
  Option.bind (tape_List_api_Tuple__i2 O b0_1 b0_3 b1.Summary.Tuples) fun Q=>
  some (b0_3,(api_Synopsis.mk b1.Config b1.Recent b1.Count b1.Sum b1.Smooth b1.Spread b1.Poly b1.Halve b1.Extreme b1.Sample b1.Summary b1.Quantile),Q))<|
 cond (b1.Config.Kind==(11:Int)) (
  Option.bind (tape_Tape_Int_i6 b0_0 b0_1 b0_3 b1.Quantile.W) fun R=>
  Option.bind (tape_Tape_Small_i5 R b0_1 b0_3 b1.Quantile.K) fun S=>
  Option.bind (tape_Tape_Small_i5 S b0_1 b0_3 b1.Quantile.Cap) fun T=>
  Option.bind (tape_Tape_Int_i6 T b0_1 b0_3 b1.Quantile.Now) fun U=>
  Option.bind (tape_List_api_Block__i2 U b0_1 b0_3 b1.Quantile.Blocks) fun V=>
  some (b0_3,(api_Synopsis.mk b1.Config b1.Recent b1.Count b1.Sum b1.Smooth b1.Spread b1.Poly b1.Halve b1.Extreme b1.Sample b1.Summary b1.Quantile),V))<|
 some (true,(api_Synopsis.mk b1.Config b1.Recent b1.Count b1.Sum b1.Smooth b1.Spread b1.Poly b1.Halve b1.Extreme b1.Sample b1.Summary b1.Quantile),b0_0)
noncomputable def tape_Tape_Config_i2 (b0_0:(List Int)) (b0_1:Int) (b0_3:Bool) (b1:api_Config):Option (List Int):=
 Option.bind (tape_Tape_Small_i5 b0_0 b0_1 b0_3 b1.Kind) fun a=>
 Option.bind (tape_Tape_Small_i5 a b0_1 b0_3 b1.Agg) fun b=>
 Option.bind (tape_Tape_Int_i6 b b0_1 b0_3 b1.W) fun c=>
 Option.bind (tape_Tape_Small_i5 c b0_1 b0_3 b1.K) fun d=>
 Option.bind (tape_Tape_Small_i5 d b0_1 b0_3 b1.Cap) fun e=>
 Option.bind (tape_Tape_Small_i5 e b0_1 b0_3 b1.P) fun f=>
 Option.bind (tape_Tape_Small_i5 f b0_1 b0_3 b1.Chains) fun g=>
 Option.bind (tape_Tape_Int_i6 g b0_1 b0_3 b1.Max) fun h=>
 some h
noncomputable def tape_Tape_Int_i3 (b0_0:(List Int)) (b0_1:Int) (b1:Int):Option (List Int):=
 Option.bind (tape_Append_i3 b0_0 b1) fun a=>
 some a
noncomputable def tape_Tape_Small_i3 (b0_0:(List Int)) (b0_1:Int) (b1:Int):Option (List Int):=
 Option.bind (tape_Tape_Int_i3 b0_0 b0_1 b1) fun a=>
 some a
noncomputable def tape_Tape_Within_i2 (p2:Int) (p3:Int) (b0_0:(List Int)) (b0_1:Int) (b1:Int):Option (List Int):=
 Option.bind (tape_Tape_Int_i3 b0_0 b0_1 b1) fun a=>
 some a
noncomputable def tape_Append_i2_l3s (b:(List Int)) (a:Int):Option (((List Int)×Int)⊕(List Int)):=
 cond (decide (a≥(128:Int))) (
  ck (decide ((b.length+ [(ior .u8 (IntKind.u8.wrap a) (128:Int))].length)*1≤140737488355328))<|
  some (.inl ((b++ [(ior .u8 (IntKind.u8.wrap a) (128:Int))]),(ishr .u64 a (7:Int)))))<|
 Option.map Sum.inr (ck (decide ((b.length+ [(IntKind.u8.wrap a)].length)*1≤140737488355328))<|
 some (b++ [(IntKind.u8.wrap a)]))
noncomputable def tape_Append_i2_l3 (a:(List Int)) (b:Int):Option (List Int):=
 loop (fun (s:((List Int)×Int))=>tape_Append_i2_l3s s.1 s.2) (a,b)
noncomputable def tape_Append_i2_j1 (a:Int):Option (List Int):=
 tape_Append_i2_l3 ([]:List Int) a
noncomputable def tape_Append_i2 (p1:Int):Option (List Int):=
 cond (decide (p1<(0:Int))) (
  tape_Append_i2_j1 (inot .u64 (ishl .u64 (wu64 p1) (1:Int))))<|
 tape_Append_i2_j1 (ishl .u64 (wu64 p1) (1:Int))
noncomputable def tape_Tape_Int_i2 (b0_1:Int) (b1:Int):Option (List Int):=
 Option.bind (tape_Append_i2 b1) fun a=>
 some a
noncomputable def tape_Tape_Within_i4 (p2:Int) (p3:Int) (b0_1:Int) (b1:Int):Option (List Int):=
 Option.bind (tape_Tape_Int_i2 b0_1 b1) fun a=>
 some a
noncomputable def snapshot_whole_i1_l3s (b0_1:Int) (b1:api_Engine) (c:(List api_Record)) (a:Int) (d:(List Int)) (b:Bool):Option (((List api_Record)×Int×(List Int)×Bool)⊕(Bool×api_Engine×(List Int))):=
 cond ((decide (a<(c.length:Int)))&&(!b)) (
  Option.bind (idx c a) fun h=>
  Option.bind (idx c a) fun xq13_4=>
  Option.bind (tape_Tape_Int_i6 d b0_1 b xq13_4.ID) fun g=>
  Option.bind (idx (c.set (a).toNat xq13_4) a) fun xq14_5=>
  Option.bind (tape_Tape_Config_i2 g b0_1 b xq14_5.Synopsis.Config) fun f=>
  cond (!b) (
   Option.bind (idx ((c.set (a).toNat xq13_4).set (a).toNat xq14_5) a) fun xq16_4=>
   Option.bind (snapshot_state_i2 f b0_1 b xq16_4.Synopsis) fun e=>
   some (.inl ((((c.set (a).toNat xq13_4).set (a).toNat xq14_5).set (a).toNat (api_Record.mk xq16_4.ID e.2.1)),(w64 (a+(1:Int))),e.2.2,e.1)))<|
  some (.inl (((c.set (a).toNat xq13_4).set (a).toNat xq14_5),(w64 (a+(1:Int))),f,b)))<|
 Option.map Sum.inr (some (b,(api_Engine.mk b1.Now b1.Limit c),d))
noncomputable def snapshot_whole_i1_l3 (b0_1:Int) (b1:api_Engine) (c:(List api_Record)) (d:Int) (a:(List Int)) (b:Bool):Option (Bool×api_Engine×(List Int)):=
 loop (fun (s:((List api_Record)×Int×(List Int)×Bool))=>snapshot_whole_i1_l3s b0_1 b1 s.1 s.2.1 s.2.2.1 s.2.2.2) (c,d,a,b)
noncomputable def snapshot_whole_i1 (b0_1:Int) (b1:api_Engine):Option (Bool×api_Engine×(List Int)):=
 Option.bind (tape_Tape_Within_i4 (1:Int) (1:Int) b0_1 (1:Int)) fun a=>
 Option.bind (tape_Tape_Int_i3 a b0_1 b1.Now) fun b=>
 Option.bind (tape_Tape_Small_i3 b b0_1 b1.Limit) fun c=>
 Option.bind (tape_Tape_Within_i2 (0:Int) (64:Int) c b0_1 (b1.Records.length:Int)) fun d=>
 ck (decide (0≤(b1.Records.length:Int)∧(b1.Records.length:Int)≤(b1.Records.length:Int)∧(b1.Records.length:Int)*640≤140737488355328∧(b1.Records.length:Int)≤140737488355328))<|
 snapshot_whole_i1_l3 b0_1 b1 (laid (List.replicate ((b1.Records.length:Int)).toNat (api_Record.mk (0:Int) (api_Synopsis.mk (api_Config.mk (0:Int) (0:Int) (0:Int) (0:Int) (0:Int) (0:Int) (0:Int) (0:Int)) (api_Recent.mk (0:Int) (0:Int) (0:Int) ([]:List api_Item)) (api_Count.mk (0:Int) (0:Int) (0:Int) (0:Int) ([]:List api_Bucket)) (api_Sum.mk (0:Int) (0:Int) (0:Int) (0:Int) (0:Int) ([]:List api_Bucket)) (api_Smooth.mk (0:Int) (0:Int) (0:Int) (0:Int) (0:Int) (0:Int) ([]:List api_Mark)) (api_Spread.mk (0:Int) (0:Int) (0:Int) (0:Int) (0:Int) ([]:List api_Mark)) (api_Poly.mk (0:Int) (0:Int) (0:Int) ([]:List api_Wide)) (api_Halve.mk (0:Int) ([]:List Int)) (api_Extreme.mk false (0:Int) (0:Int) (0:Int) ([]:List api_Item)) (api_Sample.mk ([]:List api_Chain)) (api_Summary.mk (0:Int) (0:Int) (0:Int) ([]:List api_Tuple)) (api_Quantile.mk (0:Int) (0:Int) (0:Int) (0:Int) ([]:List api_Block))))) 0 (b1.Records.take (List.replicate ((b1.Records.length:Int)).toNat (api_Record.mk (0:Int) (api_Synopsis.mk (api_Config.mk (0:Int) (0:Int) (0:Int) (0:Int) (0:Int) (0:Int) (0:Int) (0:Int)) (api_Recent.mk (0:Int) (0:Int) (0:Int) ([]:List api_Item)) (api_Count.mk (0:Int) (0:Int) (0:Int) (0:Int) ([]:List api_Bucket)) (api_Sum.mk (0:Int) (0:Int) (0:Int) (0:Int) (0:Int) ([]:List api_Bucket)) (api_Smooth.mk (0:Int) (0:Int) (0:Int) (0:Int) (0:Int) (0:Int) ([]:List api_Mark)) (api_Spread.mk (0:Int) (0:Int) (0:Int) (0:Int) (0:Int) ([]:List api_Mark)) (api_Poly.mk (0:Int) (0:Int) (0:Int) ([]:List api_Wide)) (api_Halve.mk (0:Int) ([]:List Int)) (api_Extreme.mk false (0:Int) (0:Int) (0:Int) ([]:List api_Item)) (api_Sample.mk ([]:List api_Chain)) (api_Summary.mk (0:Int) (0:Int) (0:Int) ([]:List api_Tuple)) (api_Quantile.mk (0:Int) (0:Int) (0:Int) (0:Int) ([]:List api_Block))))).length)) (0:Int) d false
noncomputable def snapshot_Encode (p0:api_Engine):Option ((List Int)×Int):=
 Option.bind (snapshot_Validate p0) fun a=>
 cond (a !=(0:Int)) (
  some (([]:List Int),a))<|
 Option.bind (snapshot_whole_i1 (0:Int) p0) fun b=>
 Option.bind (codec_Sum b.2.2) fun d=>
 Option.bind (tape_Append_i3 b.2.2 d) fun c=>
 cond (decide ((c.length:Int)>(1048576:Int))) (
  some (([]:List Int),(5:Int)))<|
 some (c,(0:Int))
noncomputable def law28_awake:Option Bool:=
 Option.bind (snapshot_Encode (api_Engine.mk (0:Int) (1:Int) ([]:List api_Record))) fun a=>
 Option.bind (gd (a.2==(0:Int)) (ref28_Sealed [(1:Int),(0:Int),(1:Int),(0:Int)])) fun b=>
 Option.bind (gd (a.2==(0:Int)) (ref27_SameBytes a.1 b)) fun c=>
 some ((a.2==(0:Int))&&c)
noncomputable def law28_few_l10s (c:api_Record) (d:Int) (b:Int) (a:Int):Option ((Int×Int)⊕((Int×Int)⊕Bool)):=
 cond (decide (a<(c.Synopsis.Sample.Chains.length:Int))) (
  Option.bind (idx c.Synopsis.Sample.Chains a) fun e=>
  some (.inl ((w64 (b+(e.Links.length:Int))),(w64 (a+(1:Int))))))<|
 Option.map Sum.inr (some (.inl (b,(w64 (d+(1:Int))))))
noncomputable def law28_few_l10 (d:api_Record) (b:Int) (c:Int) (a:Int):Option ((Int×Int)⊕Bool):=
 loop (fun (s:(Int×Int))=>law28_few_l10s d b s.1 s.2) (c,a)
noncomputable def law28_few_l6s (b:api_Record) (d:Int) (c:Int) (a:Int):Option ((Int×Int)⊕((Int×Int)⊕Bool)):=
 cond (decide (a<(b.Synopsis.Quantile.Blocks.length:Int))) (
  Option.bind (idx b.Synopsis.Quantile.Blocks a) fun e=>
  some (.inl ((w64 (c+(e.Ranks.Entries.length:Int))),(w64 (a+(1:Int))))))<|
 Option.map Sum.inr (law28_few_l10 b d c (0:Int))
noncomputable def law28_few_l6 (c:api_Record) (a:Int) (d:Int) (b:Int):Option ((Int×Int)⊕Bool):=
 loop (fun (s:(Int×Int))=>law28_few_l6s c a s.1 s.2) (d,b)
noncomputable def law28_few_l2s (p0:api_Engine) (c:Int) (b:Int):Option ((Int×Int)⊕Bool):=
 cond (decide (b<(p0.Records.length:Int))) (
  Option.bind (idx p0.Records b) fun a=>
  law28_few_l6 a b (w64 ((w64 ((w64 ((w64 ((w64 ((w64 ((w64 ((w64 ((w64 ((w64 ((w64 (c+(a.Synopsis.Recent.Items.length:Int)))+(a.Synopsis.Count.Buckets.length:Int)))+(a.Synopsis.Sum.Buckets.length:Int)))+(a.Synopsis.Smooth.Marks.length:Int)))+(a.Synopsis.Spread.Marks.length:Int)))+(a.Synopsis.Poly.Moments.length:Int)))+(a.Synopsis.Halve.Sums.length:Int)))+(a.Synopsis.Extreme.Items.length:Int)))+(a.Synopsis.Summary.Tuples.length:Int)))+(a.Synopsis.Quantile.Blocks.length:Int)))+(a.Synopsis.Sample.Chains.length:Int))) (0:Int))<|
 Option.map Sum.inr (some ((decide ((p0.Records.length:Int)≤(70:Int)))&&(decide (c≤(400:Int)))))
noncomputable def law28_few_l2 (p0:api_Engine) (b:Int) (a:Int):Option Bool:=
 loop (fun (s:(Int×Int))=>law28_few_l2s p0 s.1 s.2) (b,a)
noncomputable def law28_few (p0:api_Engine):Option Bool:=
 law28_few_l2 p0 (0:Int) (0:Int)
noncomputable def ref06_Tick (p0:Int):Bool:=
 ((decide (p0≥(0:Int)))&&(decide (p0≤(16777216:Int))))
noncomputable def ref25_Now (p0:api_Synopsis):(Int×Bool):=
 cond (p0.Config.Kind==(1:Int)) (
  (p0.Recent.Now,true))<|
 cond (p0.Config.Kind==(2:Int)) (
  (p0.Count.Now,true))<|
 cond (p0.Config.Kind==(3:Int)) (
  (p0.Sum.Now,true))<|
 cond (p0.Config.Kind==(4:Int)) (
  (p0.Smooth.Now,true))<|
 cond (p0.Config.Kind==(5:Int)) (
  (p0.Spread.Now,true))<|
 cond (p0.Config.Kind==(6:Int)) (
  (p0.Poly.Now,true))<|
 cond (p0.Config.Kind==(7:Int)) (
  (p0.Halve.Now,true))<|
 cond (p0.Config.Kind==(8:Int)) (
  (p0.Extreme.Now,true))<|
 cond (p0.Config.Kind==(11:Int)) (
  (p0.Quantile.Now,true))<|
 ((0:Int),false)
noncomputable def ref24_Plain_j2 (p0:api_Config) (a:Int) (b:Int) (c:Int) (d:Int) (e:Int) (f:Int) (g:Int):api_Config:=
 (api_Config.mk p0.Kind a b c d e f g)
noncomputable def ref24_Plain_j3 (p0:api_Config) (a:Bool):api_Config:=
 cond a (
  ref24_Plain_j2 p0 (0:Int) p0.W p0.K p0.Cap (0:Int) (0:Int) (0:Int))<|
 cond (p0.Kind==(3:Int)) (
  ref24_Plain_j2 p0 (0:Int) p0.W p0.K p0.Cap (0:Int) (0:Int) p0.Max)<|
 cond (p0.Kind==(4:Int)) (
  ref24_Plain_j2 p0 p0.Agg p0.W p0.K p0.Cap (0:Int) (0:Int) (0:Int))<|
 cond (p0.Kind==(6:Int)) (
  ref24_Plain_j2 p0 (0:Int) (0:Int) (0:Int) (0:Int) p0.P (0:Int) (0:Int))<|
 cond (p0.Kind==(7:Int)) (
  ref24_Plain_j2 p0 (0:Int) p0.W (0:Int) (0:Int) (0:Int) (0:Int) (0:Int))<|
 cond (p0.Kind==(8:Int)) (
  ref24_Plain_j2 p0 (0:Int) p0.W (0:Int) p0.Cap (0:Int) (0:Int) p0.Max)<|
 cond (p0.Kind==(9:Int)) (
  ref24_Plain_j2 p0 (0:Int) p0.W (0:Int) p0.Cap (0:Int) p0.Chains (0:Int))<|
 cond (p0.Kind==(10:Int)) (
  ref24_Plain_j2 p0 (0:Int) (0:Int) p0.K p0.Cap (0:Int) (0:Int) (0:Int))<|
 ref24_Plain_j2 p0 (0:Int) (0:Int) (0:Int) (0:Int) (0:Int) (0:Int) (0:Int)
noncomputable def ref24_Plain (p0:api_Config):api_Config:=
 cond (p0.Kind==(1:Int)) (
  ref24_Plain_j2 p0 (0:Int) p0.W (0:Int) p0.Cap (0:Int) (0:Int) (0:Int))<|
 cond (p0.Kind==(2:Int)) (
  ref24_Plain_j3 p0 (p0.Kind==(2:Int)))<|
 cond (p0.Kind==(5:Int)) (
  ref24_Plain_j3 p0 (p0.Kind==(5:Int)))<|
 ref24_Plain_j3 p0 (p0.Kind==(11:Int))
noncomputable def ref06_Window (p0:Int):Bool:=
 ((decide (p0≥(1:Int)))&&(decide (p0≤(1048576:Int))))
noncomputable def ref09_May (p0:Int) (p1:Int) (p2:Int):Bool:=
 let b:=(ref06_Window p0);
 let a:=(ref06_Tick p2);
 (((b&&(decide (p1≥(1:Int))))&&(decide (p1≤(65536:Int))))&&a)
noncomputable def ref11_MayK (p0:Int):Bool:=
 ((decide (p0≥(1:Int)))&&(decide (p0≤(64:Int))))
noncomputable def ref13_MayAgg (p0:Int):Bool:=
 ((decide (p0≥(1:Int)))&&(decide (p0≤(4:Int))))
noncomputable def ref24_ranges_j3 (p0:api_Config) (a:Bool) (b:Bool):Bool:=
 cond b (
  let g:=(ref11_MayK p0.K);
  (a&&g))<|
 cond (p0.Kind==(3:Int)) (
  let c:=(ref11_MayK p0.K);
  (((a&&c)&&(decide (p0.Max≥(1:Int))))&&(decide (p0.Max≤(1024:Int)))))<|
 cond (p0.Kind==(4:Int)) (
  let d:=(ref11_MayK p0.K);
  let e:=(ref13_MayAgg p0.Agg);
  ((a&&d)&&e))<|
 cond (p0.Kind==(6:Int)) (
  ((decide (p0.P≥(0:Int)))&&(decide (p0.P≤(4:Int)))))<|
 cond (p0.Kind==(7:Int)) (
  ((decide (p0.W≥(1:Int)))&&(decide (p0.W≤(64:Int)))))<|
 cond (p0.Kind==(8:Int)) (
  (a&&((p0.Max==(0:Int))||(p0.Max==(1:Int)))))<|
 cond (p0.Kind==(9:Int)) (
  ((((((decide (p0.Chains≥(1:Int)))&&(decide (p0.Chains≤(16:Int))))&&(decide (p0.W≥(1:Int))))&&(decide (p0.W≤(1048576:Int))))&&(decide (p0.Cap≥(1:Int))))&&(decide (p0.Cap≤(64:Int)))))<|
 cond (p0.Kind==(10:Int)) (
  let f:=(ref11_MayK p0.K);
  ((f&&(decide (p0.Cap≥(2:Int))))&&(decide (p0.Cap≤(65536:Int)))))<|
 false
noncomputable def ref24_ranges (p0:api_Config):Bool:=
 let a:=(ref09_May p0.W p0.Cap (0:Int));
 cond (p0.Kind==(1:Int)) (
  a)<|
 cond (p0.Kind==(2:Int)) (
  ref24_ranges_j3 p0 a (p0.Kind==(2:Int)))<|
 cond (p0.Kind==(5:Int)) (
  ref24_ranges_j3 p0 a (p0.Kind==(5:Int)))<|
 ref24_ranges_j3 p0 a (p0.Kind==(11:Int))
noncomputable def ref24_Validate (p0:api_Config):Int:=
 let a:=(ref24_Plain p0);
 let b:=(ref24_ranges p0);
 cond ((!(p0.Kind==a.Kind&&(p0.Agg==a.Agg&&(p0.W==a.W&&(p0.K==a.K&&(p0.Cap==a.Cap&&(p0.P==a.P&&(p0.Chains==a.Chains&&(p0.Max==a.Max&&true)))))))))||(!b)) (
  (1:Int))<|
 (0:Int)
noncomputable def ref25_Alone_j2 (p0:api_Synopsis) (i:api_Recent) (a:api_Count) (b:api_Sum) (c:api_Smooth) (d:api_Spread) (e:api_Poly) (j:Int) (k:(List Int)) (f:api_Extreme) (l:(List api_Chain)) (g:api_Summary) (h:api_Quantile):api_Synopsis:=
 (api_Synopsis.mk p0.Config i a b c d e (api_Halve.mk j k) f (api_Sample.mk l) g h)
noncomputable def ref25_Alone (p0:api_Synopsis):api_Synopsis:=
 cond (p0.Config.Kind==(1:Int)) (
  ref25_Alone_j2 p0 p0.Recent (api_Count.mk (0:Int) (0:Int) (0:Int) (0:Int) ([]:List api_Bucket)) (api_Sum.mk (0:Int) (0:Int) (0:Int) (0:Int) (0:Int) ([]:List api_Bucket)) (api_Smooth.mk (0:Int) (0:Int) (0:Int) (0:Int) (0:Int) (0:Int) ([]:List api_Mark)) (api_Spread.mk (0:Int) (0:Int) (0:Int) (0:Int) (0:Int) ([]:List api_Mark)) (api_Poly.mk (0:Int) (0:Int) (0:Int) ([]:List api_Wide)) (0:Int) ([]:List Int) (api_Extreme.mk false (0:Int) (0:Int) (0:Int) ([]:List api_Item)) ([]:List api_Chain) (api_Summary.mk (0:Int) (0:Int) (0:Int) ([]:List api_Tuple)) (api_Quantile.mk (0:Int) (0:Int) (0:Int) (0:Int) ([]:List api_Block)))<|
 cond (p0.Config.Kind==(2:Int)) (
  ref25_Alone_j2 p0 (api_Recent.mk (0:Int) (0:Int) (0:Int) ([]:List api_Item)) p0.Count (api_Sum.mk (0:Int) (0:Int) (0:Int) (0:Int) (0:Int) ([]:List api_Bucket)) (api_Smooth.mk (0:Int) (0:Int) (0:Int) (0:Int) (0:Int) (0:Int) ([]:List api_Mark)) (api_Spread.mk (0:Int) (0:Int) (0:Int) (0:Int) (0:Int) ([]:List api_Mark)) (api_Poly.mk (0:Int) (0:Int) (0:Int) ([]:List api_Wide)) (0:Int) ([]:List Int) (api_Extreme.mk false (0:Int) (0:Int) (0:Int) ([]:List api_Item)) ([]:List api_Chain) (api_Summary.mk (0:Int) (0:Int) (0:Int) ([]:List api_Tuple)) (api_Quantile.mk (0:Int) (0:Int) (0:Int) (0:Int) ([]:List api_Block)))<|
 cond (p0.Config.Kind==(3:Int)) (
  ref25_Alone_j2 p0 (api_Recent.mk (0:Int) (0:Int) (0:Int) ([]:List api_Item)) (api_Count.mk (0:Int) (0:Int) (0:Int) (0:Int) ([]:List api_Bucket)) p0.Sum (api_Smooth.mk (0:Int) (0:Int) (0:Int) (0:Int) (0:Int) (0:Int) ([]:List api_Mark)) (api_Spread.mk (0:Int) (0:Int) (0:Int) (0:Int) (0:Int) ([]:List api_Mark)) (api_Poly.mk (0:Int) (0:Int) (0:Int) ([]:List api_Wide)) (0:Int) ([]:List Int) (api_Extreme.mk false (0:Int) (0:Int) (0:Int) ([]:List api_Item)) ([]:List api_Chain) (api_Summary.mk (0:Int) (0:Int) (0:Int) ([]:List api_Tuple)) (api_Quantile.mk (0:Int) (0:Int) (0:Int) (0:Int) ([]:List api_Block)))<|
 cond (p0.Config.Kind==(4:Int)) (
  ref25_Alone_j2 p0 (api_Recent.mk (0:Int) (0:Int) (0:Int) ([]:List api_Item)) (api_Count.mk (0:Int) (0:Int) (0:Int) (0:Int) ([]:List api_Bucket)) (api_Sum.mk (0:Int) (0:Int) (0:Int) (0:Int) (0:Int) ([]:List api_Bucket)) p0.Smooth (api_Spread.mk (0:Int) (0:Int) (0:Int) (0:Int) (0:Int) ([]:List api_Mark)) (api_Poly.mk (0:Int) (0:Int) (0:Int) ([]:List api_Wide)) (0:Int) ([]:List Int) (api_Extreme.mk false (0:Int) (0:Int) (0:Int) ([]:List api_Item)) ([]:List api_Chain) (api_Summary.mk (0:Int) (0:Int) (0:Int) ([]:List api_Tuple)) (api_Quantile.mk (0:Int) (0:Int) (0:Int) (0:Int) ([]:List api_Block)))<|
 cond (p0.Config.Kind==(5:Int)) (
  ref25_Alone_j2 p0 (api_Recent.mk (0:Int) (0:Int) (0:Int) ([]:List api_Item)) (api_Count.mk (0:Int) (0:Int) (0:Int) (0:Int) ([]:List api_Bucket)) (api_Sum.mk (0:Int) (0:Int) (0:Int) (0:Int) (0:Int) ([]:List api_Bucket)) (api_Smooth.mk (0:Int) (0:Int) (0:Int) (0:Int) (0:Int) (0:Int) ([]:List api_Mark)) p0.Spread (api_Poly.mk (0:Int) (0:Int) (0:Int) ([]:List api_Wide)) (0:Int) ([]:List Int) (api_Extreme.mk false (0:Int) (0:Int) (0:Int) ([]:List api_Item)) ([]:List api_Chain) (api_Summary.mk (0:Int) (0:Int) (0:Int) ([]:List api_Tuple)) (api_Quantile.mk (0:Int) (0:Int) (0:Int) (0:Int) ([]:List api_Block)))<|
 cond (p0.Config.Kind==(6:Int)) (
  ref25_Alone_j2 p0 (api_Recent.mk (0:Int) (0:Int) (0:Int) ([]:List api_Item)) (api_Count.mk (0:Int) (0:Int) (0:Int) (0:Int) ([]:List api_Bucket)) (api_Sum.mk (0:Int) (0:Int) (0:Int) (0:Int) (0:Int) ([]:List api_Bucket)) (api_Smooth.mk (0:Int) (0:Int) (0:Int) (0:Int) (0:Int) (0:Int) ([]:List api_Mark)) (api_Spread.mk (0:Int) (0:Int) (0:Int) (0:Int) (0:Int) ([]:List api_Mark)) p0.Poly (0:Int) ([]:List Int) (api_Extreme.mk false (0:Int) (0:Int) (0:Int) ([]:List api_Item)) ([]:List api_Chain) (api_Summary.mk (0:Int) (0:Int) (0:Int) ([]:List api_Tuple)) (api_Quantile.mk (0:Int) (0:Int) (0:Int) (0:Int) ([]:List api_Block)))<|
 cond (p0.Config.Kind==(7:Int)) (
  ref25_Alone_j2 p0 (api_Recent.mk (0:Int) (0:Int) (0:Int) ([]:List api_Item)) (api_Count.mk (0:Int) (0:Int) (0:Int) (0:Int) ([]:List api_Bucket)) (api_Sum.mk (0:Int) (0:Int) (0:Int) (0:Int) (0:Int) ([]:List api_Bucket)) (api_Smooth.mk (0:Int) (0:Int) (0:Int) (0:Int) (0:Int) (0:Int) ([]:List api_Mark)) (api_Spread.mk (0:Int) (0:Int) (0:Int) (0:Int) (0:Int) ([]:List api_Mark)) (api_Poly.mk (0:Int) (0:Int) (0:Int) ([]:List api_Wide)) p0.Halve.Now p0.Halve.Sums (api_Extreme.mk false (0:Int) (0:Int) (0:Int) ([]:List api_Item)) ([]:List api_Chain) (api_Summary.mk (0:Int) (0:Int) (0:Int) ([]:List api_Tuple)) (api_Quantile.mk (0:Int) (0:Int) (0:Int) (0:Int) ([]:List api_Block)))<|
 cond (p0.Config.Kind==(8:Int)) (
  ref25_Alone_j2 p0 (api_Recent.mk (0:Int) (0:Int) (0:Int) ([]:List api_Item)) (api_Count.mk (0:Int) (0:Int) (0:Int) (0:Int) ([]:List api_Bucket)) (api_Sum.mk (0:Int) (0:Int) (0:Int) (0:Int) (0:Int) ([]:List api_Bucket)) (api_Smooth.mk (0:Int) (0:Int) (0:Int) (0:Int) (0:Int) (0:Int) ([]:List api_Mark)) (api_Spread.mk (0:Int) (0:Int) (0:Int) (0:Int) (0:Int) ([]:List api_Mark)) (api_Poly.mk (0:Int) (0:Int) (0:Int) ([]:List api_Wide)) (0:Int) ([]:List Int) p0.Extreme ([]:List api_Chain) (api_Summary.mk (0:Int) (0:Int) (0:Int) ([]:List api_Tuple)) (api_Quantile.mk (0:Int) (0:Int) (0:Int) (0:Int) ([]:List api_Block)))<|
 cond (p0.Config.Kind==(9:Int)) (
  ref25_Alone_j2 p0 (api_Recent.mk (0:Int) (0:Int) (0:Int) ([]:List api_Item)) (api_Count.mk (0:Int) (0:Int) (0:Int) (0:Int) ([]:List api_Bucket)) (api_Sum.mk (0:Int) (0:Int) (0:Int) (0:Int) (0:Int) ([]:List api_Bucket)) (api_Smooth.mk (0:Int) (0:Int) (0:Int) (0:Int) (0:Int) (0:Int) ([]:List api_Mark)) (api_Spread.mk (0:Int) (0:Int) (0:Int) (0:Int) (0:Int) ([]:List api_Mark)) (api_Poly.mk (0:Int) (0:Int) (0:Int) ([]:List api_Wide)) (0:Int) ([]:List Int) (api_Extreme.mk false (0:Int) (0:Int) (0:Int) ([]:List api_Item)) p0.Sample.Chains (api_Summary.mk (0:Int) (0:Int) (0:Int) ([]:List api_Tuple)) (api_Quantile.mk (0:Int) (0:Int) (0:Int) (0:Int) ([]:List api_Block)))<|
 cond (p0.Config.Kind==(10:Int)) (
  ref25_Alone_j2 p0 (api_Recent.mk (0:Int) (0:Int) (0:Int) ([]:List api_Item)) (api_Count.mk (0:Int) (0:Int) (0:Int) (0:Int) ([]:List api_Bucket)) (api_Sum.mk (0:Int) (0:Int) (0:Int) (0:Int) (0:Int) ([]:List api_Bucket)) (api_Smooth.mk (0:Int) (0:Int) (0:Int) (0:Int) (0:Int) (0:Int) ([]:List api_Mark)) (api_Spread.mk (0:Int) (0:Int) (0:Int) (0:Int) (0:Int) ([]:List api_Mark)) (api_Poly.mk (0:Int) (0:Int) (0:Int) ([]:List api_Wide)) (0:Int) ([]:List Int) (api_Extreme.mk false (0:Int) (0:Int) (0:Int) ([]:List api_Item)) ([]:List api_Chain) p0.Summary (api_Quantile.mk (0:Int) (0:Int) (0:Int) (0:Int) ([]:List api_Block)))<|
 cond (p0.Config.Kind==(11:Int)) (
  ref25_Alone_j2 p0 (api_Recent.mk (0:Int) (0:Int) (0:Int) ([]:List api_Item)) (api_Count.mk (0:Int) (0:Int) (0:Int) (0:Int) ([]:List api_Bucket)) (api_Sum.mk (0:Int) (0:Int) (0:Int) (0:Int) (0:Int) ([]:List api_Bucket)) (api_Smooth.mk (0:Int) (0:Int) (0:Int) (0:Int) (0:Int) (0:Int) ([]:List api_Mark)) (api_Spread.mk (0:Int) (0:Int) (0:Int) (0:Int) (0:Int) ([]:List api_Mark)) (api_Poly.mk (0:Int) (0:Int) (0:Int) ([]:List api_Wide)) (0:Int) ([]:List Int) (api_Extreme.mk false (0:Int) (0:Int) (0:Int) ([]:List api_Item)) ([]:List api_Chain) (api_Summary.mk (0:Int) (0:Int) (0:Int) ([]:List api_Tuple)) p0.Quantile)<|
 ref25_Alone_j2 p0 (api_Recent.mk (0:Int) (0:Int) (0:Int) ([]:List api_Item)) (api_Count.mk (0:Int) (0:Int) (0:Int) (0:Int) ([]:List api_Bucket)) (api_Sum.mk (0:Int) (0:Int) (0:Int) (0:Int) (0:Int) ([]:List api_Bucket)) (api_Smooth.mk (0:Int) (0:Int) (0:Int) (0:Int) (0:Int) (0:Int) ([]:List api_Mark)) (api_Spread.mk (0:Int) (0:Int) (0:Int) (0:Int) (0:Int) ([]:List api_Mark)) (api_Poly.mk (0:Int) (0:Int) (0:Int) ([]:List api_Wide)) (0:Int) ([]:List Int) (api_Extreme.mk false (0:Int) (0:Int) (0:Int) ([]:List api_Item)) ([]:List api_Chain) (api_Summary.mk (0:Int) (0:Int) (0:Int) ([]:List api_Tuple)) (api_Quantile.mk (0:Int) (0:Int) (0:Int) (0:Int) ([]:List api_Block))
noncomputable def ref05_SameItems_l3s (p0:(List api_Item)) (p1:(List api_Item)) (a:Int):Option (Int⊕Bool):=
 cond (decide (a<(p0.length:Int))) (
  Option.bind (idx p0 a) fun b=>
  Option.bind (idx p1 a) fun c=>
  cond (!(b.T==c.T&&(b.V==c.V&&true))) (
   some (.inr false))<|
  some (.inl (w64 (a+(1:Int)))))<|
 Option.map Sum.inr (some true)
noncomputable def ref05_SameItems_l3 (p0:(List api_Item)) (p1:(List api_Item)) (a:Int):Option Bool:=
 loop (fun (s:Int)=>ref05_SameItems_l3s p0 p1 s) a
noncomputable def ref05_SameItems (p0:(List api_Item)) (p1:(List api_Item)):Option Bool:=
 cond ((p0.length:Int) !=(p1.length:Int)) (
  some false)<|
 ref05_SameItems_l3 p0 p1 (0:Int)
noncomputable def ref09_Same (p0:api_Recent) (p1:api_Recent):Option Bool:=
 Option.bind (gd (((p0.W==p1.W)&&(p0.Cap==p1.Cap))&&(p0.Now==p1.Now)) (ref05_SameItems p0.Items p1.Items)) fun a=>
 some ((((p0.W==p1.W)&&(p0.Cap==p1.Cap))&&(p0.Now==p1.Now))&&a)
noncomputable def ref10_Same_l3s (p0:(List api_Bucket)) (p1:(List api_Bucket)) (a:Int):Option (Int⊕Bool):=
 cond (decide (a<(p0.length:Int))) (
  Option.bind (idx p0 a) fun b=>
  Option.bind (idx p1 a) fun c=>
  cond (!(b.T==c.T&&(b.Level==c.Level&&true))) (
   some (.inr false))<|
  some (.inl (w64 (a+(1:Int)))))<|
 Option.map Sum.inr (some true)
noncomputable def ref10_Same_l3 (p0:(List api_Bucket)) (p1:(List api_Bucket)) (a:Int):Option Bool:=
 loop (fun (s:Int)=>ref10_Same_l3s p0 p1 s) a
noncomputable def ref10_Same (p0:(List api_Bucket)) (p1:(List api_Bucket)):Option Bool:=
 cond ((p0.length:Int) !=(p1.length:Int)) (
  some false)<|
 ref10_Same_l3 p0 p1 (0:Int)
noncomputable def ref11_Same (p0:api_Count) (p1:api_Count):Option Bool:=
 Option.bind (gd ((((p0.W==p1.W)&&(p0.K==p1.K))&&(p0.Cap==p1.Cap))&&(p0.Now==p1.Now)) (ref10_Same p0.Buckets p1.Buckets)) fun a=>
 some (((((p0.W==p1.W)&&(p0.K==p1.K))&&(p0.Cap==p1.Cap))&&(p0.Now==p1.Now))&&a)
noncomputable def ref12_Same (p0:api_Sum) (p1:api_Sum):Option Bool:=
 Option.bind (gd (((((p0.W==p1.W)&&(p0.K==p1.K))&&(p0.Cap==p1.Cap))&&(p0.Max==p1.Max))&&(p0.Now==p1.Now)) (ref10_Same p0.Buckets p1.Buckets)) fun a=>
 some ((((((p0.W==p1.W)&&(p0.K==p1.K))&&(p0.Cap==p1.Cap))&&(p0.Max==p1.Max))&&(p0.Now==p1.Now))&&a)
noncomputable def ref13_SameMarks_l3s (p0:(List api_Mark)) (p1:(List api_Mark)) (c:Int):Option (Int⊕Bool):=
 cond (decide (c<(p0.length:Int))) (
  Option.bind (idx p0 c) fun a=>
  Option.bind (idx p1 c) fun b=>
  cond (!(a.Seq==b.Seq&&(a.T==b.T&&(a.N==b.N&&(a.S==b.S&&(a.Q==b.Q&&(a.Min==b.Min&&(a.Max==b.Max&&true)))))))) (
   some (.inr false))<|
  some (.inl (w64 (c+(1:Int)))))<|
 Option.map Sum.inr (some true)
noncomputable def ref13_SameMarks_l3 (p0:(List api_Mark)) (p1:(List api_Mark)) (a:Int):Option Bool:=
 loop (fun (s:Int)=>ref13_SameMarks_l3s p0 p1 s) a
noncomputable def ref13_SameMarks (p0:(List api_Mark)) (p1:(List api_Mark)):Option Bool:=
 cond ((p0.length:Int) !=(p1.length:Int)) (
  some false)<|
 ref13_SameMarks_l3 p0 p1 (0:Int)
noncomputable def ref13_Same (p0:api_Smooth) (p1:api_Smooth):Option Bool:=
 Option.bind (gd ((((((p0.Agg==p1.Agg)&&(p0.W==p1.W))&&(p0.K==p1.K))&&(p0.Cap==p1.Cap))&&(p0.Now==p1.Now))&&(p0.Seq==p1.Seq)) (ref13_SameMarks p0.Marks p1.Marks)) fun a=>
 some (((((((p0.Agg==p1.Agg)&&(p0.W==p1.W))&&(p0.K==p1.K))&&(p0.Cap==p1.Cap))&&(p0.Now==p1.Now))&&(p0.Seq==p1.Seq))&&a)
noncomputable def ref14_Same (p0:api_Spread) (p1:api_Spread):Option Bool:=
 Option.bind (gd (((((p0.W==p1.W)&&(p0.K==p1.K))&&(p0.Cap==p1.Cap))&&(p0.Now==p1.Now))&&(p0.Seq==p1.Seq)) (ref13_SameMarks p0.Marks p1.Marks)) fun a=>
 some ((((((p0.W==p1.W)&&(p0.K==p1.K))&&(p0.Cap==p1.Cap))&&(p0.Now==p1.Now))&&(p0.Seq==p1.Seq))&&a)
noncomputable def ref15_SameWide_l3s (p0:(List api_Wide)) (p1:(List api_Wide)) (a:Int):Option (Int⊕Bool):=
 cond (decide (a<(p0.length:Int))) (
  Option.bind (idx p0 a) fun b=>
  Option.bind (idx p1 a) fun c=>
  cond (!(b.Hi==c.Hi&&(b.Lo==c.Lo&&true))) (
   some (.inr false))<|
  some (.inl (w64 (a+(1:Int)))))<|
 Option.map Sum.inr (some true)
noncomputable def ref15_SameWide_l3 (p0:(List api_Wide)) (p1:(List api_Wide)) (a:Int):Option Bool:=
 loop (fun (s:Int)=>ref15_SameWide_l3s p0 p1 s) a
noncomputable def ref15_SameWide (p0:(List api_Wide)) (p1:(List api_Wide)):Option Bool:=
 cond ((p0.length:Int) !=(p1.length:Int)) (
  some false)<|
 ref15_SameWide_l3 p0 p1 (0:Int)
noncomputable def ref15_Same (p0:api_Poly) (p1:api_Poly):Option Bool:=
 Option.bind (gd (((p0.P==p1.P)&&(p0.Land==p1.Land))&&(p0.Now==p1.Now)) (ref15_SameWide p0.Moments p1.Moments)) fun a=>
 some ((((p0.P==p1.P)&&(p0.Land==p1.Land))&&(p0.Now==p1.Now))&&a)
noncomputable def ref09_SameNumbers_l3s (p0:(List Int)) (p1:(List Int)) (a:Int):Option (Int⊕Bool):=
 cond (decide (a<(p0.length:Int))) (
  Option.bind (idx p0 a) fun b=>
  Option.bind (idx p1 a) fun c=>
  cond (b !=c) (
   some (.inr false))<|
  some (.inl (w64 (a+(1:Int)))))<|
 Option.map Sum.inr (some true)
noncomputable def ref09_SameNumbers_l3 (p0:(List Int)) (p1:(List Int)) (a:Int):Option Bool:=
 loop (fun (s:Int)=>ref09_SameNumbers_l3s p0 p1 s) a
noncomputable def ref09_SameNumbers (p0:(List Int)) (p1:(List Int)):Option Bool:=
 cond ((p0.length:Int) !=(p1.length:Int)) (
  some false)<|
 ref09_SameNumbers_l3 p0 p1 (0:Int)
noncomputable def ref16_Same (p0:api_Halve) (p1:api_Halve):Option Bool:=
 Option.bind (gd (p0.Now==p1.Now) (ref09_SameNumbers p0.Sums p1.Sums)) fun a=>
 some ((p0.Now==p1.Now)&&a)
noncomputable def ref17_Same (p0:api_Extreme) (p1:api_Extreme):Option Bool:=
 Option.bind (gd ((((p0.Max==p1.Max)&&(p0.W==p1.W))&&(p0.Cap==p1.Cap))&&(p0.Now==p1.Now)) (ref05_SameItems p0.Items p1.Items)) fun a=>
 some (((((p0.Max==p1.Max)&&(p0.W==p1.W))&&(p0.Cap==p1.Cap))&&(p0.Now==p1.Now))&&a)
noncomputable def ref18_Same_l3s (p0:api_Chain) (p1:api_Chain) (a:Int):Option (Int⊕Bool):=
 cond (decide (a<(p0.Links.length:Int))) (
  Option.bind (idx p0.Links a) fun b=>
  Option.bind (idx p1.Links a) fun c=>
  cond (!(b.I==c.I&&(b.V==c.V&&true))) (
   some (.inr false))<|
  some (.inl (w64 (a+(1:Int)))))<|
 Option.map Sum.inr (some true)
noncomputable def ref18_Same_l3 (p0:api_Chain) (p1:api_Chain) (a:Int):Option Bool:=
 loop (fun (s:Int)=>ref18_Same_l3s p0 p1 s) a
noncomputable def ref18_Same (p0:api_Chain) (p1:api_Chain):Option Bool:=
 cond (((((p0.W !=p1.W)||(p0.Cap !=p1.Cap))||(p0.I !=p1.I))||(p0.Next !=p1.Next))||((p0.Links.length:Int) !=(p1.Links.length:Int))) (
  some false)<|
 ref18_Same_l3 p0 p1 (0:Int)
noncomputable def ref19_Same_l3s (p0:api_Sample) (p1:api_Sample) (a:Int):Option (Int⊕Bool):=
 cond (decide (a<(p0.Chains.length:Int))) (
  Option.bind (idx p0.Chains a) fun c=>
  Option.bind (idx p1.Chains a) fun d=>
  Option.bind (ref18_Same c d) fun b=>
  cond (!b) (
   some (.inr false))<|
  some (.inl (w64 (a+(1:Int)))))<|
 Option.map Sum.inr (some true)
noncomputable def ref19_Same_l3 (p0:api_Sample) (p1:api_Sample) (a:Int):Option Bool:=
 loop (fun (s:Int)=>ref19_Same_l3s p0 p1 s) a
noncomputable def ref19_Same (p0:api_Sample) (p1:api_Sample):Option Bool:=
 cond ((p0.Chains.length:Int) !=(p1.Chains.length:Int)) (
  some false)<|
 ref19_Same_l3 p0 p1 (0:Int)
noncomputable def ref20_Same_l3s (p0:api_Summary) (p1:api_Summary) (a:Int):Option (Int⊕Bool):=
 cond (decide (a<(p0.Tuples.length:Int))) (
  Option.bind (idx p0.Tuples a) fun b=>
  Option.bind (idx p1.Tuples a) fun c=>
  cond (!(b.V==c.V&&(b.G==c.G&&(b.D==c.D&&true)))) (
   some (.inr false))<|
  some (.inl (w64 (a+(1:Int)))))<|
 Option.map Sum.inr (some true)
noncomputable def ref20_Same_l3 (p0:api_Summary) (p1:api_Summary) (a:Int):Option Bool:=
 loop (fun (s:Int)=>ref20_Same_l3s p0 p1 s) a
noncomputable def ref20_Same (p0:api_Summary) (p1:api_Summary):Option Bool:=
 cond ((((p0.K !=p1.K)||(p0.Cap !=p1.Cap))||(p0.N !=p1.N))||((p0.Tuples.length:Int) !=(p1.Tuples.length:Int))) (
  some false)<|
 ref20_Same_l3 p0 p1 (0:Int)
noncomputable def ref21_Same_l3s (p0:api_Ranks) (p1:api_Ranks) (a:Int):Option (Int⊕Bool):=
 cond (decide (a<(p0.Entries.length:Int))) (
  Option.bind (idx p0.Entries a) fun b=>
  Option.bind (idx p1.Entries a) fun c=>
  cond (!(b.V==c.V&&(b.Min==c.Min&&(b.Max==c.Max&&true)))) (
   some (.inr false))<|
  some (.inl (w64 (a+(1:Int)))))<|
 Option.map Sum.inr (some true)
noncomputable def ref21_Same_l3 (p0:api_Ranks) (p1:api_Ranks) (a:Int):Option Bool:=
 loop (fun (s:Int)=>ref21_Same_l3s p0 p1 s) a
noncomputable def ref21_Same (p0:api_Ranks) (p1:api_Ranks):Option Bool:=
 cond ((p0.N !=p1.N)||((p0.Entries.length:Int) !=(p1.Entries.length:Int))) (
  some false)<|
 ref21_Same_l3 p0 p1 (0:Int)
noncomputable def ref22_Same_l3s (p0:(List api_Block)) (p1:(List api_Block)) (a:Int):Option (Int⊕Bool):=
 cond (decide (a<(p0.length:Int))) (
  Option.bind (idx p0 a) fun b=>
  Option.bind (idx p1 a) fun c=>
  Option.bind (gd (!(b.T !=c.T)) (idx p0 a)) fun d=>
  Option.bind (gd (!(b.T !=c.T)) (idx p1 a)) fun e=>
  Option.bind (gd (!((b.T !=c.T)||(d.Last !=e.Last))) (idx p0 a)) fun f=>
  Option.bind (gd (!((b.T !=c.T)||(d.Last !=e.Last))) (idx p1 a)) fun g=>
  Option.bind (gd (!(((b.T !=c.T)||(d.Last !=e.Last))||(f.Level !=g.Level))) (idx p0 a)) fun h=>
  Option.bind (gd (!(((b.T !=c.T)||(d.Last !=e.Last))||(f.Level !=g.Level))) (idx p1 a)) fun i=>
  Option.bind (gd (!(((b.T !=c.T)||(d.Last !=e.Last))||(f.Level !=g.Level))) (ref21_Same h.Ranks i.Ranks)) fun j=>
  cond ((((b.T !=c.T)||(d.Last !=e.Last))||(f.Level !=g.Level))||(!j)) (
   some (.inr false))<|
  some (.inl (w64 (a+(1:Int)))))<|
 Option.map Sum.inr (some true)
noncomputable def ref22_Same_l3 (p0:(List api_Block)) (p1:(List api_Block)) (a:Int):Option Bool:=
 loop (fun (s:Int)=>ref22_Same_l3s p0 p1 s) a
noncomputable def ref22_Same (p0:(List api_Block)) (p1:(List api_Block)):Option Bool:=
 cond ((p0.length:Int) !=(p1.length:Int)) (
  some false)<|
 ref22_Same_l3 p0 p1 (0:Int)
noncomputable def ref23_Same (p0:api_Quantile) (p1:api_Quantile):Option Bool:=
 Option.bind (gd ((((p0.W==p1.W)&&(p0.K==p1.K))&&(p0.Cap==p1.Cap))&&(p0.Now==p1.Now)) (ref22_Same p0.Blocks p1.Blocks)) fun a=>
 some (((((p0.W==p1.W)&&(p0.K==p1.K))&&(p0.Cap==p1.Cap))&&(p0.Now==p1.Now))&&a)
noncomputable def ref25_Same (p0:api_Synopsis) (p1:api_Synopsis):Option Bool:=
 Option.bind (gd (p0.Config.Kind==p1.Config.Kind&&(p0.Config.Agg==p1.Config.Agg&&(p0.Config.W==p1.Config.W&&(p0.Config.K==p1.Config.K&&(p0.Config.Cap==p1.Config.Cap&&(p0.Config.P==p1.Config.P&&(p0.Config.Chains==p1.Config.Chains&&(p0.Config.Max==p1.Config.Max&&true)))))))) (ref09_Same p0.Recent p1.Recent)) fun a=>
 Option.bind (gd ((p0.Config.Kind==p1.Config.Kind&&(p0.Config.Agg==p1.Config.Agg&&(p0.Config.W==p1.Config.W&&(p0.Config.K==p1.Config.K&&(p0.Config.Cap==p1.Config.Cap&&(p0.Config.P==p1.Config.P&&(p0.Config.Chains==p1.Config.Chains&&(p0.Config.Max==p1.Config.Max&&true))))))))&&a) (ref11_Same p0.Count p1.Count)) fun b=>
 Option.bind (gd (((p0.Config.Kind==p1.Config.Kind&&(p0.Config.Agg==p1.Config.Agg&&(p0.Config.W==p1.Config.W&&(p0.Config.K==p1.Config.K&&(p0.Config.Cap==p1.Config.Cap&&(p0.Config.P==p1.Config.P&&(p0.Config.Chains==p1.Config.Chains&&(p0.Config.Max==p1.Config.Max&&true))))))))&&a)&&b) (ref12_Same p0.Sum p1.Sum)) fun c=>
 Option.bind (gd ((((p0.Config.Kind==p1.Config.Kind&&(p0.Config.Agg==p1.Config.Agg&&(p0.Config.W==p1.Config.W&&(p0.Config.K==p1.Config.K&&(p0.Config.Cap==p1.Config.Cap&&(p0.Config.P==p1.Config.P&&(p0.Config.Chains==p1.Config.Chains&&(p0.Config.Max==p1.Config.Max&&true))))))))&&a)&&b)&&c) (ref13_Same p0.Smooth p1.Smooth)) fun d=>
 Option.bind (gd (((((p0.Config.Kind==p1.Config.Kind&&(p0.Config.Agg==p1.Config.Agg&&(p0.Config.W==p1.Config.W&&(p0.Config.K==p1.Config.K&&(p0.Config.Cap==p1.Config.Cap&&(p0.Config.P==p1.Config.P&&(p0.Config.Chains==p1.Config.Chains&&(p0.Config.Max==p1.Config.Max&&true))))))))&&a)&&b)&&c)&&d) (ref14_Same p0.Spread p1.Spread)) fun e=>
 Option.bind (gd ((((((p0.Config.Kind==p1.Config.Kind&&(p0.Config.Agg==p1.Config.Agg&&(p0.Config.W==p1.Config.W&&(p0.Config.K==p1.Config.K&&(p0.Config.Cap==p1.Config.Cap&&(p0.Config.P==p1.Config.P&&(p0.Config.Chains==p1.Config.Chains&&(p0.Config.Max==p1.Config.Max&&true))))))))&&a)&&b)&&c)&&d)&&e) (ref15_Same p0.Poly p1.Poly)) fun f=>
 Option.bind (gd (((((((p0.Config.Kind==p1.Config.Kind&&(p0.Config.Agg==p1.Config.Agg&&(p0.Config.W==p1.Config.W&&(p0.Config.K==p1.Config.K&&(p0.Config.Cap==p1.Config.Cap&&(p0.Config.P==p1.Config.P&&(p0.Config.Chains==p1.Config.Chains&&(p0.Config.Max==p1.Config.Max&&true))))))))&&a)&&b)&&c)&&d)&&e)&&f) (ref16_Same p0.Halve p1.Halve)) fun g=>
 Option.bind (gd ((((((((p0.Config.Kind==p1.Config.Kind&&(p0.Config.Agg==p1.Config.Agg&&(p0.Config.W==p1.Config.W&&(p0.Config.K==p1.Config.K&&(p0.Config.Cap==p1.Config.Cap&&(p0.Config.P==p1.Config.P&&(p0.Config.Chains==p1.Config.Chains&&(p0.Config.Max==p1.Config.Max&&true))))))))&&a)&&b)&&c)&&d)&&e)&&f)&&g) (ref17_Same p0.Extreme p1.Extreme)) fun h=>
 Option.bind (gd (((((((((p0.Config.Kind==p1.Config.Kind&&(p0.Config.Agg==p1.Config.Agg&&(p0.Config.W==p1.Config.W&&(p0.Config.K==p1.Config.K&&(p0.Config.Cap==p1.Config.Cap&&(p0.Config.P==p1.Config.P&&(p0.Config.Chains==p1.Config.Chains&&(p0.Config.Max==p1.Config.Max&&true))))))))&&a)&&b)&&c)&&d)&&e)&&f)&&g)&&h) (ref19_Same p0.Sample p1.Sample)) fun i=>
 Option.bind (gd ((((((((((p0.Config.Kind==p1.Config.Kind&&(p0.Config.Agg==p1.Config.Agg&&(p0.Config.W==p1.Config.W&&(p0.Config.K==p1.Config.K&&(p0.Config.Cap==p1.Config.Cap&&(p0.Config.P==p1.Config.P&&(p0.Config.Chains==p1.Config.Chains&&(p0.Config.Max==p1.Config.Max&&true))))))))&&a)&&b)&&c)&&d)&&e)&&f)&&g)&&h)&&i) (ref20_Same p0.Summary p1.Summary)) fun j=>
 Option.bind (gd (((((((((((p0.Config.Kind==p1.Config.Kind&&(p0.Config.Agg==p1.Config.Agg&&(p0.Config.W==p1.Config.W&&(p0.Config.K==p1.Config.K&&(p0.Config.Cap==p1.Config.Cap&&(p0.Config.P==p1.Config.P&&(p0.Config.Chains==p1.Config.Chains&&(p0.Config.Max==p1.Config.Max&&true))))))))&&a)&&b)&&c)&&d)&&e)&&f)&&g)&&h)&&i)&&j) (ref23_Same p0.Quantile p1.Quantile)) fun k=>
 some ((((((((((((p0.Config.Kind==p1.Config.Kind&&(p0.Config.Agg==p1.Config.Agg&&(p0.Config.W==p1.Config.W&&(p0.Config.K==p1.Config.K&&(p0.Config.Cap==p1.Config.Cap&&(p0.Config.P==p1.Config.P&&(p0.Config.Chains==p1.Config.Chains&&(p0.Config.Max==p1.Config.Max&&true))))))))&&a)&&b)&&c)&&d)&&e)&&f)&&g)&&h)&&i)&&j)&&k)
noncomputable def ref06_Live (p0:Int) (p1:Int) (p2:Int):Bool:=
 let a:=(ref06_Tick p0);
 let b:=(ref06_Window p1);
 let c:=(ref06_Tick p2);
 ((((a&&b)&&c)&&(decide (p2>(w64 (p0-p1)))))&&(decide (p2≤p0)))
noncomputable def ref08_Valid_l3s (p0:(List api_Item)) (p1:Int) (a:Int):Option (Int⊕Bool):=
 cond (decide (a<(p0.length:Int))) (
  Option.bind (idx p0 a) fun b=>
  Option.bind (gd ((!((decide (b.T<(0:Int)))||(decide (b.T>p1))))&&(decide (a>(0:Int)))) (idx p0 (w64 (a-(1:Int))))) fun c=>
  cond (((decide (b.T<(0:Int)))||(decide (b.T>p1)))||((decide (a>(0:Int)))&&(decide (c.T>b.T)))) (
   some (.inr false))<|
  some (.inl (w64 (a+(1:Int)))))<|
 Option.map Sum.inr (some true)
noncomputable def ref08_Valid_l3 (p0:(List api_Item)) (p1:Int) (a:Int):Option Bool:=
 loop (fun (s:Int)=>ref08_Valid_l3s p0 p1 s) a
noncomputable def ref08_Valid (p0:(List api_Item)) (p1:Int):Option Bool:=
 let a:=(ref06_Tick p1);
 cond (!a) (
  some false)<|
 ref08_Valid_l3 p0 p1 (0:Int)
noncomputable def ref09_Value (p0:Int):Bool:=
 ((decide (p0≥(-4096:Int)))&&(decide (p0≤(4096:Int))))
noncomputable def ref09_Validate_l3s (p0:api_Recent) (a:Int):Option (Int⊕Int):=
 cond (decide (a<(p0.Items.length:Int))) (
  Option.bind (idx p0.Items a) fun b=>
  let d:=(ref06_Live p0.Now p0.W b.T);
  let c:=(ref09_Value b.V);
  cond ((!d)||(!c)) (
   some (.inr (2:Int)))<|
  some (.inl (w64 (a+(1:Int)))))<|
 Option.map Sum.inr (some (0:Int))
noncomputable def ref09_Validate_l3 (p0:api_Recent) (a:Int):Option Int:=
 loop (fun (s:Int)=>ref09_Validate_l3s p0 s) a
noncomputable def ref09_Validate (p0:api_Recent):Option Int:=
 let a:=(ref09_May p0.W p0.Cap p0.Now);
 Option.bind (gd (!((!a)||(decide ((p0.Items.length:Int)>p0.Cap)))) (ref08_Valid p0.Items p0.Now)) fun b=>
 cond (((!a)||(decide ((p0.Items.length:Int)>p0.Cap)))||(!b)) (
  some (2:Int))<|
 ref09_Validate_l3 p0 (0:Int)
noncomputable def ref10_Total_l2s (p0:(List api_Bucket)) (c:Int) (a:Int):Option ((Int×Int)⊕Int):=
 cond (decide (a<(p0.length:Int))) (
  Option.bind (idx p0 a) fun b=>
  cond ((decide (b.Level≥(0:Int)))&&(decide (b.Level≤(30:Int)))) (
   ck (decide (0≤(wu64 b.Level)))<|
   some (.inl ((w64 (c+(ishl .i64 (1:Int) (wu64 b.Level)))),(w64 (a+(1:Int))))))<|
  some (.inl (c,(w64 (a+(1:Int))))))<|
 Option.map Sum.inr (some c)
noncomputable def ref10_Total_l2 (p0:(List api_Bucket)) (a:Int) (b:Int):Option Int:=
 loop (fun (s:(Int×Int))=>ref10_Total_l2s p0 s.1 s.2) (a,b)
noncomputable def ref10_Total (p0:(List api_Bucket)):Option Int:=
 ref10_Total_l2 p0 (0:Int) (0:Int)
noncomputable def ref10_MayK (p0:Int):Bool:=
 ((decide (p0≥(1:Int)))&&(decide (p0≤(128:Int))))
noncomputable def ref10_Valid_l8s (p0:(List api_Bucket)) (p1:Int) (b:(List Int)) (a:Int):Option (Int⊕Bool):=
 cond (decide (a<(b.length:Int))) (
  Option.bind (idx b a) fun e=>
  Option.bind (idx b a) fun c=>
  Option.bind (gd (decide ((p0.length:Int)>(0:Int))) (idx p0 (0:Int))) fun d=>
  cond ((decide ((p0.length:Int)>(0:Int)))&&(((decide (a<d.Level))&&(decide (c<p1)))||(decide (c>(w64 (p1+(1:Int))))))) (
   some (.inr false))<|
  some (.inl (w64 (a+(1:Int)))))<|
 Option.map Sum.inr (some true)
noncomputable def ref10_Valid_l8 (p0:(List api_Bucket)) (p1:Int) (b:(List Int)) (a:Int):Option Bool:=
 loop (fun (s:Int)=>ref10_Valid_l8s p0 p1 b s) a
noncomputable def ref10_Valid_l3s (p0:(List api_Bucket)) (p1:Int) (c:(List Int)) (b:Int):Option (((List Int)×Int)⊕Bool):=
 cond (decide (b<(p0.length:Int))) (
  Option.bind (idx p0 b) fun a=>
  let d:=(ref06_Tick a.T);
  Option.bind (gd ((!(((!d)||(decide (a.Level<(0:Int))))||(decide (a.Level>(30:Int)))))&&(decide (b>(0:Int)))) (idx p0 (w64 (b-(1:Int))))) fun e=>
  Option.bind (gd (((!(((!d)||(decide (a.Level<(0:Int))))||(decide (a.Level>(30:Int)))))&&(decide (b>(0:Int))))&&(!(decide (e.T>a.T)))) (idx p0 (w64 (b-(1:Int))))) fun f=>
  cond ((((!d)||(decide (a.Level<(0:Int))))||(decide (a.Level>(30:Int))))||((decide (b>(0:Int)))&&((decide (e.T>a.T))||(decide (f.Level<a.Level))))) (
   some (.inr false))<|
  Option.bind (idx c a.Level) fun h=>
  Option.bind (idx c a.Level) fun g=>
  Option.bind (idx c a.Level) fun i=>
  Option.bind (idx c a.Level) fun j=>
  some (.inl ((c.set (a.Level).toNat (w64 (g+(1:Int)))),(w64 (b+(1:Int))))))<|
 Option.map Sum.inr (ref10_Valid_l8 p0 p1 c (0:Int))
noncomputable def ref10_Valid_l3 (p0:(List api_Bucket)) (p1:Int) (b:(List Int)) (a:Int):Option Bool:=
 loop (fun (s:((List Int)×Int))=>ref10_Valid_l3s p0 p1 s.1 s.2) (b,a)
noncomputable def ref10_Valid (p0:(List api_Bucket)) (p1:Int):Option Bool:=
 let a:=(ref10_MayK p1);
 cond (!a) (
  some false)<|
 ck (decide (0≤(31:Int)∧(31:Int)≤(31:Int)∧(31:Int)*8≤140737488355328∧(31:Int)≤140737488355328))<|
 ref10_Valid_l3 p0 p1 (List.replicate ((31:Int)).toNat (0:Int)) (0:Int)
noncomputable def ref11_Fits_l3s (p0:(List api_Bucket)) (p1:Int) (p4:Int) (a:Int):Option (Int⊕Bool):=
 cond (decide (a<(p0.length:Int))) (
  Option.bind (idx p0 a) fun b=>
  let c:=(ref06_Live p4 p1 b.T);
  cond (!c) (
   some (.inr false))<|
  some (.inl (w64 (a+(1:Int)))))<|
 Option.map Sum.inr (some true)
noncomputable def ref11_Fits_l3 (p0:(List api_Bucket)) (p1:Int) (p4:Int) (a:Int):Option Bool:=
 loop (fun (s:Int)=>ref11_Fits_l3s p0 p1 p4 s) a
noncomputable def ref11_Fits (p0:(List api_Bucket)) (p1:Int) (p2:Int) (p3:Int) (p4:Int):Option Bool:=
 let a:=(ref09_May p1 p3 p4);
 let b:=(ref11_MayK p2);
 Option.bind (gd (!((!a)||(!b))) (ref10_Valid p0 p2)) fun c=>
 Option.bind (gd (!(((!a)||(!b))||(!c))) (ref10_Total p0)) fun d=>
 cond ((((!a)||(!b))||(!c))||(decide (d>p3))) (
  some false)<|
 ref11_Fits_l3 p0 p1 p4 (0:Int)
noncomputable def ref11_Validate (p0:api_Count):Option Int:=
 Option.bind (ref11_Fits p0.Buckets p0.W p0.K p0.Cap p0.Now) fun a=>
 cond (!a) (
  some (2:Int))<|
 some (0:Int)
noncomputable def ref12_MayMax (p0:Int):Bool:=
 ((decide (p0≥(1:Int)))&&(decide (p0≤(1024:Int))))
noncomputable def ref12_Validate (p0:api_Sum):Option Int:=
 Option.bind (ref11_Fits p0.Buckets p0.W p0.K p0.Cap p0.Now) fun a=>
 let b:=(ref12_MayMax p0.Max);
 cond ((!a)||(!b)) (
  some (2:Int))<|
 some (0:Int)
noncomputable def ref13_Part (p0:Int) (p1:Int) (p2:Int) (p3:Int) (p4:Int):Bool:=
 (((((decide ((w64 (p0*p3))≤p1))&&(decide (p1≤(w64 (p0*p4)))))&&(decide (p2≥(0:Int))))&&(decide (p2≤(w64 ((w64 (p0*(4096:Int)))*(4096:Int))))))&&(decide ((w64 (p1*p1))≤(w64 (p0*p2)))))
noncomputable def ref13_Value (p0:Int) (p1:Int):Bool:=
 let a:=(ref09_Value p1);
 (a&&(((decide (p1≥(0:Int)))||(p0==(1:Int)))||(p0==(4:Int))))
noncomputable def ref13_Marks_l3s (p0:(List api_Mark)) (p1:Int) (p2:Int) (p3:Int) (p4:Int) (p5:Int) (b:Int):Option (Int⊕Bool):=
 cond (decide (b<(p0.length:Int))) (
  Option.bind (idx p0 b) fun a=>
  Option.bind (gd ((!((((decide (a.Seq<(1:Int)))||(decide (a.Seq>p5)))||(a.N !=(w64 ((w64 (p5-a.Seq))+(1:Int)))))||(decide (a.N>p3))))&&(decide (b>(0:Int)))) (idx p0 (w64 (b-(1:Int))))) fun g=>
  cond (((((decide (a.Seq<(1:Int)))||(decide (a.Seq>p5)))||(a.N !=(w64 ((w64 (p5-a.Seq))+(1:Int)))))||(decide (a.N>p3)))||((decide (b>(0:Int)))&&(decide (g.Seq≥a.Seq)))) (
   some (.inr false))<|
  let d:=(ref06_Tick a.T);
  Option.bind (gd ((!((!d)||(decide (a.T>p4))))&&(decide (b>(0:Int)))) (idx p0 (w64 (b-(1:Int))))) fun h=>
  let i:=(ref06_Live p4 p2 a.T);
  cond ((((!d)||(decide (a.T>p4)))||((decide (b>(0:Int)))&&(decide (h.T>a.T))))||(((decide (b>(0:Int)))||((p0.length:Int)==(1:Int)))&&(!i))) (
   some (.inr false))<|
  let j:=(ref13_Value p1 a.Min);
  let k:=(ref13_Value p1 a.Max);
  let e:=(ref13_Part a.N a.S a.Q a.Min a.Max);
  cond ((((((((!j)||(!k))||(decide (a.Min>a.Max)))||(decide (a.S<(w64 ((IntKind.i64.wrap (0-a.N))*(4096:Int))))))||(decide (a.S>(w64 (a.N*(4096:Int))))))||(decide (a.Q<(0:Int))))||(decide (a.Q>(w64 ((w64 (a.N*(4096:Int)))*(4096:Int))))))||(!e)) (
   some (.inr false))<|
  cond ((b==(w64 ((p0.length:Int)-(1:Int))))&&((((a.Seq !=p5)||(a.Min !=a.S))||(a.Max !=a.S))||(a.Q !=(w64 (a.S*a.S))))) (
   some (.inr false))<|
  cond (decide (b>(0:Int))) (
   Option.bind (idx p0 (w64 (b-(1:Int)))) fun c=>
   let f:=(ref13_Part (w64 (c.N-a.N)) (w64 (c.S-a.S)) (w64 (c.Q-a.Q)) c.Min c.Max);
   cond (((decide (a.Min<c.Min))||(decide (a.Max>c.Max)))||(!f)) (
    some (.inr false))<|
   some (.inl (w64 (b+(1:Int)))))<|
  some (.inl (w64 (b+(1:Int)))))<|
 Option.map Sum.inr (some true)
noncomputable def ref13_Marks_l3 (p0:(List api_Mark)) (p1:Int) (p2:Int) (p3:Int) (p4:Int) (p5:Int) (a:Int):Option Bool:=
 loop (fun (s:Int)=>ref13_Marks_l3s p0 p1 p2 p3 p4 p5 s) a
noncomputable def ref13_Marks (p0:(List api_Mark)) (p1:Int) (p2:Int) (p3:Int) (p4:Int) (p5:Int):Option Bool:=
 cond ((decide (p5<(0:Int)))||(decide (p5>(1099511627776:Int)))) (
  some false)<|
 ref13_Marks_l3 p0 p1 p2 p3 p4 p5 (0:Int)
noncomputable def ref01_Sub (p0:Int) (p1:Int):(Int×Bool):=
 cond (((decide (p1<(0:Int)))&&(decide (p0>(w64 ((9223372036854775807:Int)+p1)))))||((decide (p1>(0:Int)))&&(decide (p0<(w64 ((-9223372036854775808:Int)+p1)))))) (
  ((0:Int),false))<|
 ((w64 (p0-p1)),true)
noncomputable def ref13_Of_j5:Int:=
 (0:Int)
noncomputable def ref13_Of (p0:api_Mark) (p1:Int):Int:=
 cond (p1==(1:Int)) (
  p0.N)<|
 cond (p1==(2:Int)) (
  p0.S)<|
 cond (p1==(3:Int)) (
  p0.Q)<|
 cond (p1==(4:Int)) (
  let a:=(ref01_Sub p0.Max p0.Min);
  cond a.2 (
   a.1)<|
  ref13_Of_j5)<|
 ref13_Of_j5
noncomputable def ref13_Validate_l3s (p0:api_Smooth) (a:Int):Option (Int⊕Int):=
 cond (decide (a<(p0.Marks.length:Int))) (
  Option.bind (idx p0.Marks a) fun b=>
  let i:=(ref13_Of b p0.Agg);
  Option.bind (gd (decide (a>(1:Int))) (idx p0.Marks (w64 (a-(2:Int))))) fun d=>
  let e:=(ref13_Of d p0.Agg);
  cond ((decide (a>(1:Int)))&&(decide ((w64 ((w64 (p0.K+(1:Int)))*i))≥(w64 (p0.K*e))))) (
   some (.inr (2:Int)))<|
  Option.bind (gd (decide (a>(0:Int))) (idx p0.Marks (w64 (a-(1:Int))))) fun c=>
  let f:=(ref13_Of b p0.Agg);
  Option.bind (gd ((decide (a>(0:Int)))&&(decide (b.Seq>(w64 (c.Seq+(1:Int)))))) (idx p0.Marks (w64 (a-(1:Int))))) fun g=>
  let h:=(ref13_Of g p0.Agg);
  cond (((decide (a>(0:Int)))&&(decide (b.Seq>(w64 (c.Seq+(1:Int))))))&&(decide ((w64 ((w64 (p0.K+(1:Int)))*f))<(w64 (p0.K*h))))) (
   some (.inr (2:Int)))<|
  some (.inl (w64 (a+(1:Int)))))<|
 Option.map Sum.inr (some (0:Int))
noncomputable def ref13_Validate_l3 (p0:api_Smooth) (a:Int):Option Int:=
 loop (fun (s:Int)=>ref13_Validate_l3s p0 s) a
noncomputable def ref13_Validate (p0:api_Smooth):Option Int:=
 let c:=(ref13_MayAgg p0.Agg);
 let a:=(ref09_May p0.W p0.Cap p0.Now);
 let b:=(ref11_MayK p0.K);
 Option.bind (gd (!(((!c)||(!a))||(!b))) (ref13_Marks p0.Marks p0.Agg p0.W p0.Cap p0.Now p0.Seq)) fun d=>
 cond ((((!c)||(!a))||(!b))||(!d)) (
  some (2:Int))<|
 ref13_Validate_l3 p0 (0:Int)
noncomputable def ref02_Compare (p0:api_Wide) (p1:api_Wide):Int:=
 cond ((decide (p0.Hi<p1.Hi))||((p0.Hi==p1.Hi)&&(decide (p0.Lo<p1.Lo)))) (
  (-1:Int))<|
 cond (p0.Hi==p1.Hi&&(p0.Lo==p1.Lo&&true)) (
  (0:Int))<|
 (1:Int)
noncomputable def ref02_Product (p0:Int) (p1:Int):api_Wide:=
 let a:=(math_bits_Mul64 p0 p1);
 (api_Wide.mk a.1 a.2)
noncomputable def ref14_May (p0:api_Mark):Bool:=
 (((((((decide (p0.N≥(1:Int)))&&(decide (p0.N≤(65536:Int))))&&(decide (p0.S≥(w64 ((IntKind.i64.wrap (0-p0.N))*(4096:Int))))))&&(decide (p0.S≤(w64 (p0.N*(4096:Int))))))&&(decide (p0.Q≥(0:Int))))&&(decide (p0.Q≤(w64 ((w64 (p0.N*(4096:Int)))*(4096:Int))))))&&(decide ((w64 (p0.S*p0.S))≤(w64 (p0.N*p0.Q)))))
noncomputable def ref14_Close (p0:api_Mark) (p1:api_Mark) (p2:Int):Bool:=
 let d:=(ref14_May p0);
 let e:=(ref14_May p1);
 let a:=(ref11_MayK p2);
 cond ((((!d)||(!e))||(!a))||(decide ((w64 ((w64 ((6:Int)*p2))*p1.N))<(w64 ((w64 ((w64 ((6:Int)*p2))-(1:Int)))*p0.N))))) (
  false)<|
 let f:=(ref02_Product (wu64 (w64 ((w64 (p1.N*p1.Q))-(w64 (p1.S*p1.S))))) (wu64 (w64 ((w64 ((6:Int)*p2))*p0.N))));
 let b:=(ref02_Product (wu64 (w64 ((w64 (p0.N*p0.Q))-(w64 (p0.S*p0.S))))) (wu64 (w64 ((w64 ((w64 ((6:Int)*p2))-(1:Int)))*p1.N))));
 let c:=(ref02_Compare f b);
 (decide (c≥(0:Int)))
noncomputable def ref14_Validate_l3s (p0:api_Spread) (a:Int):Option (Int⊕Int):=
 cond (decide (a<(p0.Marks.length:Int))) (
  Option.bind (idx p0.Marks (w64 (a-(2:Int)))) fun c=>
  Option.bind (idx p0.Marks a) fun d=>
  let b:=(ref14_Close c d p0.K);
  cond b (
   some (.inr (2:Int)))<|
  some (.inl (w64 (a+(1:Int)))))<|
 Option.map Sum.inr (some (0:Int))
noncomputable def ref14_Validate_l3 (p0:api_Spread) (a:Int):Option Int:=
 loop (fun (s:Int)=>ref14_Validate_l3s p0 s) a
noncomputable def ref14_Validate (p0:api_Spread):Option Int:=
 let b:=(ref09_May p0.W p0.Cap p0.Now);
 let a:=(ref11_MayK p0.K);
 Option.bind (gd (!((!b)||(!a))) (ref13_Marks p0.Marks (4:Int) p0.W p0.Cap p0.Now p0.Seq)) fun c=>
 cond (((!b)||(!a))||(!c)) (
  some (2:Int))<|
 ref14_Validate_l3 p0 (2:Int)
noncomputable def ref02_Add (p0:api_Wide) (p1:api_Wide):Option (api_Wide×Bool):=
 Option.bind (math_bits_Add64 p0.Lo p1.Lo (0:Int)) fun a=>
 Option.bind (math_bits_Add64 p0.Hi p1.Hi a.2) fun b=>
 cond (b.2 !=(0:Int)) (
  some ((api_Wide.mk (0:Int) (0:Int)),false))<|
 some ((api_Wide.mk b.1 a.1),true)
noncomputable def ref02_Mul (p0:api_Wide) (p1:api_Wide):Option (api_Wide×Bool):=
 cond ((p0.Hi !=(0:Int))&&(p1.Hi !=(0:Int))) (
  some ((api_Wide.mk (0:Int) (0:Int)),false))<|
 let b:=(ref02_Product p0.Hi p1.Lo);
 let c:=(ref02_Product p0.Lo p1.Hi);
 cond ((b.Hi !=(0:Int))||(c.Hi !=(0:Int))) (
  some ((api_Wide.mk (0:Int) (0:Int)),false))<|
 let d:=(ref02_Product p0.Lo p1.Lo);
 Option.bind (ref02_Add d (api_Wide.mk (wu64 (b.Lo+c.Lo)) (0:Int))) fun a=>
 some (a.1,a.2)
noncomputable def ref02_Of (p0:Int):api_Wide:=
 (api_Wide.mk (0:Int) p0)
noncomputable def ref15_Validate_l3s (p0:api_Poly) (a:Int):Option (Int⊕Int):=
 cond (decide (a≤p0.P)) (
  Option.bind (idx p0.Moments (w64 (a-(1:Int)))) fun g=>
  let d:=(ref02_Of (wu64 (w64 ((w64 (p0.Now-p0.Land))+(1:Int)))));
  Option.bind (ref02_Mul g d) fun b=>
  Option.bind (idx p0.Moments a) fun h=>
  Option.bind (idx p0.Moments (w64 (a-(1:Int)))) fun i=>
  let c:=(ref02_Compare h i);
  Option.bind (gd ((!(decide (c<(0:Int))))&&b.2) (idx p0.Moments a)) fun e=>
  let f:=(ref02_Compare e b.1);
  cond ((decide (c<(0:Int)))||(b.2&&(decide (f>(0:Int))))) (
   some (.inr (2:Int)))<|
  some (.inl (w64 (a+(1:Int)))))<|
 Option.map Sum.inr (some (0:Int))
noncomputable def ref15_Validate_l3 (p0:api_Poly) (a:Int):Option Int:=
 loop (fun (s:Int)=>ref15_Validate_l3s p0 s) a
noncomputable def ref15_Validate (p0:api_Poly):Option Int:=
 let a:=(ref06_Tick p0.Now);
 cond ((((((decide (p0.P<(0:Int)))||(decide (p0.P>(4:Int))))||(!a))||(decide (p0.Land<(0:Int))))||(decide (p0.Land>p0.Now)))||((p0.Moments.length:Int) !=(w64 (p0.P+(1:Int))))) (
  some (2:Int))<|
 ref15_Validate_l3 p0 (1:Int)
noncomputable def ref16_Validate_l3s (p0:api_Halve) (a:Int):Option (Int⊕Int):=
 cond (decide (a<(p0.Sums.length:Int))) (
  Option.bind (idx p0.Sums a) fun b=>
  cond (((decide (b<(0:Int)))||(decide (b>(1099511627776:Int))))||((decide (a>p0.Now))&&(b !=(0:Int)))) (
   some (.inr (2:Int)))<|
  some (.inl (w64 (a+(1:Int)))))<|
 Option.map Sum.inr (some (0:Int))
noncomputable def ref16_Validate_l3 (p0:api_Halve) (a:Int):Option Int:=
 loop (fun (s:Int)=>ref16_Validate_l3s p0 s) a
noncomputable def ref16_Validate (p0:api_Halve):Option Int:=
 let a:=(ref06_Tick p0.Now);
 cond (((decide ((p0.Sums.length:Int)<(1:Int)))||(decide ((p0.Sums.length:Int)>(64:Int))))||(!a)) (
  some (2:Int))<|
 ref16_Validate_l3 p0 (0:Int)
noncomputable def ref17_better (p0:Bool) (p1:Int) (p2:Int):Bool:=
 ((p0&&(decide (p1>p2)))||((!p0)&&(decide (p1<p2))))
noncomputable def ref17_Validate_l3s (p0:api_Extreme) (a:Int):Option (Int⊕Int):=
 cond (decide (a<(p0.Items.length:Int))) (
  Option.bind (idx p0.Items a) fun b=>
  let d:=(ref06_Live p0.Now p0.W b.T);
  let c:=(ref09_Value b.V);
  Option.bind (gd ((!((!d)||(!c)))&&(decide (a>(0:Int)))) (idx p0.Items (w64 (a-(1:Int))))) fun e=>
  Option.bind (gd (((!((!d)||(!c)))&&(decide (a>(0:Int))))&&(!(decide (e.T≥b.T)))) (idx p0.Items (w64 (a-(1:Int))))) fun f=>
  let g:=(ref17_better p0.Max f.V b.V);
  cond (((!d)||(!c))||((decide (a>(0:Int)))&&((decide (e.T≥b.T))||(!g)))) (
   some (.inr (2:Int)))<|
  some (.inl (w64 (a+(1:Int)))))<|
 Option.map Sum.inr (some (0:Int))
noncomputable def ref17_Validate_l3 (p0:api_Extreme) (a:Int):Option Int:=
 loop (fun (s:Int)=>ref17_Validate_l3s p0 s) a
noncomputable def ref17_Validate (p0:api_Extreme):Option Int:=
 let a:=(ref09_May p0.W p0.Cap p0.Now);
 cond ((!a)||(decide ((p0.Items.length:Int)>p0.Cap))) (
  some (2:Int))<|
 ref17_Validate_l3 p0 (0:Int)
noncomputable def ref18_Validate_l6s (p0:api_Chain) (a:Int):Option (Int⊕Int):=
 cond (decide (a<(p0.Links.length:Int))) (
  Option.bind (idx p0.Links a) fun b=>
  let c:=(ref09_Value b.V);
  Option.bind (gd ((!((!c)||(decide (b.I>p0.I))))&&(decide (a>(0:Int)))) (idx p0.Links (w64 (a-(1:Int))))) fun d=>
  Option.bind (gd (((!((!c)||(decide (b.I>p0.I))))&&(decide (a>(0:Int))))&&(!(decide (b.I≤d.I)))) (idx p0.Links (w64 (a-(1:Int))))) fun e=>
  cond (((!c)||(decide (b.I>p0.I)))||((decide (a>(0:Int)))&&((decide (b.I≤d.I))||(decide (b.I>(w64 (e.I+p0.W))))))) (
   some (.inr (2:Int)))<|
  some (.inl (w64 (a+(1:Int)))))<|
 Option.map Sum.inr (Option.bind (gd (!(decide (p0.Next≤p0.I))) (idx p0.Links (w64 ((p0.Links.length:Int)-(1:Int))))) fun f=>
 cond ((decide (p0.Next≤p0.I))||(decide (p0.Next>(w64 (f.I+p0.W))))) (
  some (2:Int))<|
 some (0:Int))
noncomputable def ref18_Validate_l6 (p0:api_Chain) (a:Int):Option Int:=
 loop (fun (s:Int)=>ref18_Validate_l6s p0 s) a
noncomputable def ref18_Validate (p0:api_Chain):Option Int:=
 let c:=(ref06_Window p0.W);
 cond ((((((!c)||(decide (p0.Cap<(1:Int))))||(decide (p0.Cap>(64:Int))))||(decide (p0.I<(0:Int))))||(decide (p0.I>(1099511627776:Int))))||(decide ((p0.Links.length:Int)>p0.Cap))) (
  some (2:Int))<|
 cond (p0.I==(0:Int)) (
  cond (((p0.Links.length:Int) !=(0:Int))||(p0.Next !=(0:Int))) (
   some (2:Int))<|
  some (0:Int))<|
 Option.bind (gd (!((p0.Links.length:Int)==(0:Int))) (idx p0.Links (0:Int))) fun a=>
 Option.bind (gd (!(((p0.Links.length:Int)==(0:Int))||(decide (a.I≤(w64 (p0.I-p0.W)))))) (idx p0.Links (0:Int))) fun b=>
 cond ((((p0.Links.length:Int)==(0:Int))||(decide (a.I≤(w64 (p0.I-p0.W)))))||(decide (b.I<(1:Int)))) (
  some (2:Int))<|
 ref18_Validate_l6 p0 (0:Int)
noncomputable def ref19_Validate_l3s (p0:api_Sample) (a:Int):Option (Int⊕Int):=
 cond (decide (a<(p0.Chains.length:Int))) (
  Option.bind (idx p0.Chains a) fun b=>
  Option.bind (idx p0.Chains (0:Int)) fun c=>
  Option.bind (ref18_Validate b) fun d=>
  cond ((((d !=(0:Int))||(b.W !=c.W))||(b.Cap !=c.Cap))||(b.I !=c.I)) (
   some (.inr (2:Int)))<|
  some (.inl (w64 (a+(1:Int)))))<|
 Option.map Sum.inr (some (0:Int))
noncomputable def ref19_Validate_l3 (p0:api_Sample) (a:Int):Option Int:=
 loop (fun (s:Int)=>ref19_Validate_l3s p0 s) a
noncomputable def ref19_Validate (p0:api_Sample):Option Int:=
 cond ((decide ((p0.Chains.length:Int)<(1:Int)))||(decide ((p0.Chains.length:Int)>(16:Int)))) (
  some (2:Int))<|
 ref19_Validate_l3 p0 (0:Int)
noncomputable def ref20_M (p0:api_Summary):Option Int:=
 ck (decide (p0.K≠0))<|
 some (imax (1:Int) (w64 (Int.tdiv p0.N p0.K)))
noncomputable def ref20_New (p0:Int) (p1:Int):(api_Summary×Int):=
 let a:=(ref11_MayK p0);
 cond (((!a)||(decide (p1<(2:Int))))||(decide (p1>(65536:Int)))) (
  ((api_Summary.mk (0:Int) (0:Int) (0:Int) ([]:List api_Tuple)),(1:Int)))<|
 ((api_Summary.mk p0 p1 (0:Int) ([]:List api_Tuple)),(0:Int))
noncomputable def ref20_Validate_l3s (p0:api_Summary) (c:Int) (b:Int):Option ((Int×Int)⊕Int):=
 cond (decide (b<(p0.Tuples.length:Int))) (
  Option.bind (idx p0.Tuples b) fun a=>
  let d:=(ref09_Value a.V);
  Option.bind (gd (!(((((!d)||(decide (a.G<(1:Int))))||(decide (a.G>p0.N)))||(decide (a.D<(0:Int))))||(decide (a.D>p0.N)))) (ref20_M p0)) fun e=>
  Option.bind (gd ((!((((((!d)||(decide (a.G<(1:Int))))||(decide (a.G>p0.N)))||(decide (a.D<(0:Int))))||(decide (a.D>p0.N)))||(decide ((w64 (a.G+a.D))>e))))&&(decide (b>(0:Int)))) (idx p0.Tuples (w64 (b-(1:Int))))) fun f=>
  cond (((((((((!d)||(decide (a.G<(1:Int))))||(decide (a.G>p0.N)))||(decide (a.D<(0:Int))))||(decide (a.D>p0.N)))||(decide ((w64 (a.G+a.D))>e)))||((decide (b>(0:Int)))&&(decide (f.V>a.V))))||((b==(0:Int))&&((a.G !=(1:Int))||(a.D !=(0:Int)))))||((b==(w64 ((p0.Tuples.length:Int)-(1:Int))))&&(a.D !=(0:Int)))) (
   some (.inr (2:Int)))<|
  cond (decide ((w64 (c+a.G))>p0.N)) (
   some (.inr (2:Int)))<|
  some (.inl ((w64 (c+a.G)),(w64 (b+(1:Int))))))<|
 Option.map Sum.inr (cond (c !=p0.N) (
  some (2:Int))<|
 some (0:Int))
noncomputable def ref20_Validate_l3 (p0:api_Summary) (b:Int) (a:Int):Option Int:=
 loop (fun (s:(Int×Int))=>ref20_Validate_l3s p0 s.1 s.2) (b,a)
noncomputable def ref20_Validate (p0:api_Summary):Option Int:=
 let a:=(ref20_New p0.K p0.Cap);
 cond (((((a.2 !=(0:Int))||(decide (p0.N<(0:Int))))||(decide (p0.N>(1099511627776:Int))))||(decide ((p0.Tuples.length:Int)>p0.Cap)))||(!(((p0.Tuples.length:Int)==(0:Int))==(p0.N==(0:Int))))) (
  some (2:Int))<|
 ref20_Validate_l3 p0 (0:Int) (0:Int)
noncomputable def ref22_Plain_l2s (p0:(List api_Block)) (b:(List api_Bucket)) (c:Int):Option (((List api_Bucket)×Int)⊕(List api_Bucket)):=
 cond (decide (c<(p0.length:Int))) (
  Option.bind (idx p0 c) fun a=>
  ck (decide ((b.length+ [(api_Bucket.mk a.T a.Level)].length)*16≤140737488355328))<|
  some (.inl ((b++ [(api_Bucket.mk a.T a.Level)]),(w64 (c+(1:Int))))))<|
 Option.map Sum.inr (some b)
noncomputable def ref22_Plain_l2 (p0:(List api_Block)) (a:(List api_Bucket)) (b:Int):Option (List api_Bucket):=
 loop (fun (s:((List api_Bucket)×Int))=>ref22_Plain_l2s p0 s.1 s.2) (a,b)
noncomputable def ref22_Plain (p0:(List api_Block)):Option (List api_Bucket):=
 ref22_Plain_l2 p0 ([]:List api_Bucket) (0:Int)
noncomputable def ref22_Total (p0:(List api_Block)):Option Int:=
 Option.bind (ref22_Plain p0) fun a=>
 Option.bind (ref10_Total a) fun b=>
 some b
noncomputable def ref21_Validate_l3s (p0:api_Ranks) (a:Int):Option (Int⊕Int):=
 cond (decide (a<(p0.Entries.length:Int))) (
  Option.bind (idx p0.Entries a) fun b=>
  cond (((((decide (b.Min<(1:Int)))||(decide (b.Min>b.Max)))||(decide (b.Max>p0.N)))||((a==(0:Int))&&(b.Max !=(1:Int))))||((a==(w64 ((p0.Entries.length:Int)-(1:Int))))&&(b.Min !=p0.N))) (
   some (.inr (2:Int)))<|
  cond (decide (a>(0:Int))) (
   Option.bind (idx p0.Entries (w64 (a-(1:Int)))) fun c=>
   cond (((decide (c.V>b.V))||(decide (c.Min≥b.Min)))||(decide (c.Max≥b.Max))) (
    some (.inr (2:Int)))<|
   some (.inl (w64 (a+(1:Int)))))<|
  some (.inl (w64 (a+(1:Int)))))<|
 Option.map Sum.inr (some (0:Int))
noncomputable def ref21_Validate_l3 (p0:api_Ranks) (a:Int):Option Int:=
 loop (fun (s:Int)=>ref21_Validate_l3s p0 s) a
noncomputable def ref21_Validate (p0:api_Ranks):Option Int:=
 cond (((decide (p0.N<(0:Int)))||(decide (p0.N>(1099511627776:Int))))||(!(((p0.Entries.length:Int)==(0:Int))==(p0.N==(0:Int))))) (
  some (2:Int))<|
 ref21_Validate_l3 p0 (0:Int)
noncomputable def ref21_Gap_l3s (p0:api_Ranks) (b:Int) (a:Int):Option ((Int×Int)⊕Int):=
 cond (decide (a<(p0.Entries.length:Int))) (
  Option.bind (idx p0.Entries a) fun d=>
  Option.bind (idx p0.Entries (w64 (a-(1:Int)))) fun c=>
  some (.inl ((imax b (w64 (d.Max-c.Min))),(w64 (a+(1:Int))))))<|
 Option.map Sum.inr (some b)
noncomputable def ref21_Gap_l3 (p0:api_Ranks) (a:Int) (b:Int):Option Int:=
 loop (fun (s:(Int×Int))=>ref21_Gap_l3s p0 s.1 s.2) (a,b)
noncomputable def ref21_Gap (p0:api_Ranks):Option Int:=
 Option.bind (ref21_Validate p0) fun a=>
 cond ((a !=(0:Int))||(p0.N==(0:Int))) (
  some (0:Int))<|
 ref21_Gap_l3 p0 (1:Int) (1:Int)
noncomputable def ref22_Allowed_l3s (p0:Int) (p1:Int) (b:Int) (a:Int):Option ((Int×Int)⊕Int):=
 cond (decide (a≤p0)) (
  ck (decide (0≤(wu64 a)))<|
  cond (decide ((ishl .i64 (1:Int) (wu64 a))>(w64 (p1+(1:Int))))) (
   ck (decide (p1≠0))<|
   some (.inl ((w64 ((w64 ((2:Int)*b))+(w64 (Int.tdiv (w64 ((w64 ((w64 ((ishl .i64 (1:Int) (wu64 a))-(1:Int)))+p1))-(1:Int))) p1)))),(w64 (a+(1:Int))))))<|
  some (.inl (b,(w64 (a+(1:Int))))))<|
 Option.map Sum.inr (some b)
noncomputable def ref22_Allowed_l3 (p0:Int) (p1:Int) (a:Int) (b:Int):Option Int:=
 loop (fun (s:(Int×Int))=>ref22_Allowed_l3s p0 p1 s.1 s.2) (a,b)
noncomputable def ref22_Allowed (p0:Int) (p1:Int):Option Int:=
 cond ((((decide (p0<(0:Int)))||(decide (p0>(30:Int))))||(decide (p1<(1:Int))))||(decide (p1>(65536:Int)))) (
  some (-1:Int))<|
 ref22_Allowed_l3 p0 p1 (0:Int) (0:Int)
noncomputable def ref22_Valid_l3s (p0:(List api_Block)) (p2:Int) (c:Int):Option (Int⊕Bool):=
 cond (decide (c<(p0.length:Int))) (
  Option.bind (idx p0 c) fun a=>
  Option.bind (ref21_Validate a.Ranks) fun g=>
  ck (!(!(g !=(0:Int)))||(decide (0≤(wu64 a.Level))))<|
  cond (((g !=(0:Int))||(a.Ranks.N !=(ishl .i64 (1:Int) (wu64 a.Level))))||(decide ((a.Ranks.Entries.length:Int)>(w64 (p2+(1:Int)))))) (
   some (.inr false))<|
  Option.bind (idx a.Ranks.Entries (0:Int)) fun d=>
  Option.bind (idx a.Ranks.Entries (w64 ((a.Ranks.Entries.length:Int)-(1:Int)))) fun b=>
  let e:=(ref09_Value d.V);
  let f:=(ref09_Value b.V);
  Option.bind (gd (!((((!e)||(!f))||(decide (a.Last<d.V)))||(decide (a.Last>b.V)))) (ref21_Gap a.Ranks)) fun h=>
  Option.bind (gd (!((((!e)||(!f))||(decide (a.Last<d.V)))||(decide (a.Last>b.V)))) (ref22_Allowed a.Level p2)) fun i=>
  cond (((((!e)||(!f))||(decide (a.Last<d.V)))||(decide (a.Last>b.V)))||(decide ((w64 (h-(1:Int)))>i))) (
   some (.inr false))<|
  some (.inl (w64 (c+(1:Int)))))<|
 Option.map Sum.inr (some true)
noncomputable def ref22_Valid_l3 (p0:(List api_Block)) (p2:Int) (a:Int):Option Bool:=
 loop (fun (s:Int)=>ref22_Valid_l3s p0 p2 s) a
noncomputable def ref22_Valid (p0:(List api_Block)) (p1:Int) (p2:Int):Option Bool:=
 Option.bind (gd (!((decide (p2<(1:Int)))||(decide (p2>(65536:Int))))) (ref22_Plain p0)) fun b=>
 Option.bind (gd (!((decide (p2<(1:Int)))||(decide (p2>(65536:Int))))) (ref10_Valid b p1)) fun a=>
 cond (((decide (p2<(1:Int)))||(decide (p2>(65536:Int))))||(!a)) (
  some false)<|
 ref22_Valid_l3 p0 p2 (0:Int)
noncomputable def ref01_Bits_l2s (a:Int) (b:Int):Option ((Int×Int)⊕Int):=
 cond (decide (a>(0:Int))) (
  some (.inl ((w64 (Int.tdiv a (2:Int))),(w64 (b+(1:Int))))))<|
 Option.map Sum.inr (some b)
noncomputable def ref01_Bits_l2 (a:Int) (b:Int):Option Int:=
 loop (fun (s:(Int×Int))=>ref01_Bits_l2s s.1 s.2) (a,b)
noncomputable def ref01_Bits (p0:Int):Option Int:=
 ref01_Bits_l2 p0 (0:Int)
noncomputable def ref23_Size (p0:Int) (p1:Int):Option Int:=
 let a:=(ref11_MayK p0);
 cond (((!a)||(decide (p1<(1:Int))))||(decide (p1>(65536:Int)))) (
  some (0:Int))<|
 Option.bind (ref01_Bits p1) fun b=>
 some (w64 ((w64 ((2:Int)*p0))*(w64 (b+(2:Int)))))
noncomputable def ref23_Validate_l3s (p0:api_Quantile) (a:Int):Option (Int⊕Int):=
 cond (decide (a<(p0.Blocks.length:Int))) (
  Option.bind (idx p0.Blocks a) fun b=>
  let c:=(ref06_Live p0.Now p0.W b.T);
  cond (!c) (
   some (.inr (2:Int)))<|
  some (.inl (w64 (a+(1:Int)))))<|
 Option.map Sum.inr (some (0:Int))
noncomputable def ref23_Validate_l3 (p0:api_Quantile) (a:Int):Option Int:=
 loop (fun (s:Int)=>ref23_Validate_l3s p0 s) a
noncomputable def ref23_Validate (p0:api_Quantile):Option Int:=
 let b:=(ref09_May p0.W p0.Cap p0.Now);
 let a:=(ref11_MayK p0.K);
 Option.bind (gd (!((!b)||(!a))) (ref23_Size p0.K p0.Cap)) fun d=>
 Option.bind (gd (!((!b)||(!a))) (ref22_Valid p0.Blocks (w64 ((2:Int)*p0.K)) d)) fun c=>
 Option.bind (gd (!(((!b)||(!a))||(!c))) (ref22_Total p0.Blocks)) fun e=>
 cond ((((!b)||(!a))||(!c))||(decide (e>p0.Cap))) (
  some (2:Int))<|
 ref23_Validate_l3 p0 (0:Int)
noncomputable def ref25_made (p0:api_Synopsis):Option Bool:=
 cond (p0.Config.Kind==(1:Int)) (
  Option.bind (ref09_Validate p0.Recent) fun k=>
  some (((k==(0:Int))&&(p0.Recent.W==p0.Config.W))&&(p0.Recent.Cap==p0.Config.Cap)))<|
 cond (p0.Config.Kind==(2:Int)) (
  Option.bind (ref11_Validate p0.Count) fun l=>
  some ((((l==(0:Int))&&(p0.Count.W==p0.Config.W))&&(p0.Count.K==p0.Config.K))&&(p0.Count.Cap==p0.Config.Cap)))<|
 cond (p0.Config.Kind==(3:Int)) (
  Option.bind (ref12_Validate p0.Sum) fun m=>
  some (((((m==(0:Int))&&(p0.Sum.W==p0.Config.W))&&(p0.Sum.K==p0.Config.K))&&(p0.Sum.Cap==p0.Config.Cap))&&(p0.Sum.Max==p0.Config.Max)))<|
 cond (p0.Config.Kind==(4:Int)) (
  Option.bind (ref13_Validate p0.Smooth) fun d=>
  some (((((d==(0:Int))&&(p0.Smooth.Agg==p0.Config.Agg))&&(p0.Smooth.W==p0.Config.W))&&(p0.Smooth.K==p0.Config.K))&&(p0.Smooth.Cap==p0.Config.Cap)))<|
 cond (p0.Config.Kind==(5:Int)) (
  Option.bind (ref14_Validate p0.Spread) fun e=>
  some ((((e==(0:Int))&&(p0.Spread.W==p0.Config.W))&&(p0.Spread.K==p0.Config.K))&&(p0.Spread.Cap==p0.Config.Cap)))<|
 cond (p0.Config.Kind==(6:Int)) (
  Option.bind (ref15_Validate p0.Poly) fun f=>
  some ((f==(0:Int))&&(p0.Poly.P==p0.Config.P)))<|
 cond (p0.Config.Kind==(7:Int)) (
  Option.bind (ref16_Validate p0.Halve) fun g=>
  some ((g==(0:Int))&&((p0.Halve.Sums.length:Int)==p0.Config.W)))<|
 cond (p0.Config.Kind==(8:Int)) (
  Option.bind (ref17_Validate p0.Extreme) fun h=>
  some ((((h==(0:Int))&&(p0.Extreme.Max==(p0.Config.Max==(1:Int))))&&(p0.Extreme.W==p0.Config.W))&&(p0.Extreme.Cap==p0.Config.Cap)))<|
 cond (p0.Config.Kind==(9:Int)) (
  Option.bind (ref19_Validate p0.Sample) fun a=>
  Option.bind (gd ((a==(0:Int))&&((p0.Sample.Chains.length:Int)==p0.Config.Chains)) (idx p0.Sample.Chains (0:Int))) fun b=>
  Option.bind (gd (((a==(0:Int))&&((p0.Sample.Chains.length:Int)==p0.Config.Chains))&&(b.W==p0.Config.W)) (idx p0.Sample.Chains (0:Int))) fun c=>
  some ((((a==(0:Int))&&((p0.Sample.Chains.length:Int)==p0.Config.Chains))&&(b.W==p0.Config.W))&&(c.Cap==p0.Config.Cap)))<|
 cond (p0.Config.Kind==(10:Int)) (
  Option.bind (ref20_Validate p0.Summary) fun i=>
  some (((i==(0:Int))&&(p0.Summary.K==p0.Config.K))&&(p0.Summary.Cap==p0.Config.Cap)))<|
 cond (p0.Config.Kind==(11:Int)) (
  Option.bind (ref23_Validate p0.Quantile) fun j=>
  some ((((j==(0:Int))&&(p0.Quantile.W==p0.Config.W))&&(p0.Quantile.K==p0.Config.K))&&(p0.Quantile.Cap==p0.Config.Cap)))<|
 some false
noncomputable def ref25_Validate (p0:api_Synopsis):Option Int:=
 let a:=(ref24_Validate p0.Config);
 Option.bind (gd (!(a !=(0:Int))) (ref25_made p0)) fun b=>
 let c:=(ref25_Alone p0);
 Option.bind (gd (!((a !=(0:Int))||(!b))) (ref25_Same p0 c)) fun d=>
 cond (((a !=(0:Int))||(!b))||(!d)) (
  some (2:Int))<|
 some (0:Int)
noncomputable def ref26_Valid_l3s (p0:(List api_Record)) (a:Int):Option (Int⊕Bool):=
 cond (decide (a<(p0.length:Int))) (
  Option.bind (idx p0 a) fun b=>
  Option.bind (gd ((!((decide (b.ID<(0:Int)))||(decide (b.ID>(1048576:Int)))))&&(decide (a>(0:Int)))) (idx p0 (w64 (a-(1:Int))))) fun c=>
  Option.bind (gd (!(((decide (b.ID<(0:Int)))||(decide (b.ID>(1048576:Int))))||((decide (a>(0:Int)))&&(decide (c.ID≥b.ID))))) (ref25_Validate b.Synopsis)) fun d=>
  cond ((((decide (b.ID<(0:Int)))||(decide (b.ID>(1048576:Int))))||((decide (a>(0:Int)))&&(decide (c.ID≥b.ID))))||(d !=(0:Int))) (
   some (.inr false))<|
  some (.inl (w64 (a+(1:Int)))))<|
 Option.map Sum.inr (some true)
noncomputable def ref26_Valid_l3 (p0:(List api_Record)) (a:Int):Option Bool:=
 loop (fun (s:Int)=>ref26_Valid_l3s p0 s) a
noncomputable def ref26_Valid (p0:(List api_Record)) (p1:Int):Option Bool:=
 cond (((decide (p1<(1:Int)))||(decide (p1>(64:Int))))||(decide ((p0.length:Int)>p1))) (
  some false)<|
 ref26_Valid_l3 p0 (0:Int)
noncomputable def ref28_Validate_l3s (p0:api_Engine) (a:Int):Option (Int⊕Int):=
 cond (decide (a<(p0.Records.length:Int))) (
  Option.bind (idx p0.Records a) fun c=>
  let b:=(ref25_Now c.Synopsis);
  cond (b.2&&(b.1 !=p0.Now)) (
   some (.inr (2:Int)))<|
  some (.inl (w64 (a+(1:Int)))))<|
 Option.map Sum.inr (some (0:Int))
noncomputable def ref28_Validate_l3 (p0:api_Engine) (a:Int):Option Int:=
 loop (fun (s:Int)=>ref28_Validate_l3s p0 s) a
noncomputable def ref28_Validate (p0:api_Engine):Option Int:=
 let a:=(ref06_Tick p0.Now);
 Option.bind (gd (!(!a)) (ref26_Valid p0.Records p0.Limit)) fun b=>
 cond ((!a)||(!b)) (
  some (2:Int))<|
 ref28_Validate_l3 p0 (0:Int)
noncomputable def law28_SnapshotValidate (p0:api_Engine):Option Bool:=
 Option.bind (law28_few p0) fun c=>
 cond (!c) (
  Option.bind law28_awake fun d=>
  some d)<|
 Option.bind (snapshot_Validate p0) fun a=>
 Option.bind (ref28_Validate p0) fun b=>
 Option.bind (gd (a==b) law28_awake) fun e=>
 some ((a==b)&&e)
end Go.Win
