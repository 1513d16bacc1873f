/- Pu: chapter 25: which synopses are valid. -/
import Derived.Test.YtmipeaidieflmaaGreatPuQt
import Derived.Test.YtmipeaidieflmaaGreatPu19
set_option linter.unusedVariables false
set_option linter.unusedSimpArgs false
set_option linter.unnecessarySimpa false
set_option linter.unusedSectionVars false
namespace Go.Win
open Go.Vc Go.Dec
theorem len_max {α:Type} {l:List α} (h:l.length≤1048576):l.length≤maxLen:=by rw [maxLen_eq];omega
theorem wide_okU {l:List api_Wide} (h: ∀y∈l,wfU_api_Wide y): ∀w∈l,okW w:=fun w hw=>⟨(u64_of (h w hw).1).1,(u64_of (h w hw).1).2,(u64_of (h w hw).2).1,(u64_of (h w hw).2).2⟩
theorem vOf_beq (p:Prop):(vOf p==0)=bOf p:=by
 by_cases h:p
 ·rw [vOf_t h,bOf_t h];rfl
 ·rw [vOf_f h,bOf_f h];rfl
theorem same16_refl (x:api_Halve) (hl:x.Sums.length≤maxLen):ref16_Same x x=some true:=by
 unfold ref16_Same;simp [numbers_refl _ hl]
theorem len_bne {α:Type} (l:List α):((l.length:Int) !=(([]:List α).length:Int))= !bOf (l.length=0):=by
 by_cases h:l.length=0
 ·rw [bOf_t h,h];rfl
 ·rw [bOf_f h]
  show ((l.length:Int) !=0)=true
  rw [bne_iff_ne];omega
theorem ref05_SameItems_nil (l:List api_Item):ref05_SameItems l []=some (bOf (l.length=0)):=by
 unfold ref05_SameItems
 rw [len_bne]
 by_cases h:l.length=0
 ·rw [bOf_t h,Bool.not_true,cond_false]
  unfold ref05_SameItems_l3
  refine loop_inr ?_
  unfold ref05_SameItems_l3s
  rw [h];rfl
 ·rw [bOf_f h];rfl
theorem ref10_Same_nil (l:List api_Bucket):ref10_Same l []=some (bOf (l.length=0)):=by
 unfold ref10_Same
 rw [len_bne]
 by_cases h:l.length=0
 ·rw [bOf_t h,Bool.not_true,cond_false]
  unfold ref10_Same_l3
  refine loop_inr ?_
  unfold ref10_Same_l3s
  rw [h];rfl
 ·rw [bOf_f h];rfl
theorem ref13_SameMarks_nil (l:List api_Mark):ref13_SameMarks l []=some (bOf (l.length=0)):=by
 unfold ref13_SameMarks
 rw [len_bne]
 by_cases h:l.length=0
 ·rw [bOf_t h,Bool.not_true,cond_false]
  unfold ref13_SameMarks_l3
  refine loop_inr ?_
  unfold ref13_SameMarks_l3s
  rw [h];rfl
 ·rw [bOf_f h];rfl
theorem ref15_SameWide_nil (l:List api_Wide):ref15_SameWide l []=some (bOf (l.length=0)):=by
 unfold ref15_SameWide
 rw [len_bne]
 by_cases h:l.length=0
 ·rw [bOf_t h,Bool.not_true,cond_false]
  unfold ref15_SameWide_l3
  refine loop_inr ?_
  unfold ref15_SameWide_l3s
  rw [h];rfl
 ·rw [bOf_f h];rfl
theorem ref09_SameNumbers_nil (l:List Int):ref09_SameNumbers l []=some (bOf (l.length=0)):=by
 unfold ref09_SameNumbers
 rw [len_bne]
 by_cases h:l.length=0
 ·rw [bOf_t h,Bool.not_true,cond_false]
  unfold ref09_SameNumbers_l3
  refine loop_inr ?_
  unfold ref09_SameNumbers_l3s
  rw [h];rfl
 ·rw [bOf_f h];rfl
theorem ref22_Same_nil (l:List api_Block):ref22_Same l []=some (bOf (l.length=0)):=by
 unfold ref22_Same
 rw [len_bne]
 by_cases h:l.length=0
 ·rw [bOf_t h,Bool.not_true,cond_false]
  unfold ref22_Same_l3
  refine loop_inr ?_
  unfold ref22_Same_l3s
  rw [h];rfl
 ·rw [bOf_f h];rfl
theorem gd_some {α:Type} [Inhabited α] (g:Bool) (v:α):gd g (some v)=some (cond g v default):=by cases g<;>rfl
theorem and_cond (g v d:Bool):(g&&cond g v d)=(g&&v):=by cases g<;>rfl
def zrRecent (x:api_Recent):Prop:=x.W=0∧x.Cap=0∧x.Now=0∧x.Items.length=0
theorem zeroRecent (x:api_Recent):ref09_Same x ⟨0,0,0, []⟩=some (bOf (zrRecent x)):=by
 unfold ref09_Same
 rw [ref05_SameItems_nil]
 simp only [gd_some,Option.bind_some,and_cond]
 congr 1
 rw [Bool.eq_iff_iff,bOf_iff]
 unfold zrRecent
 simp only [Bool.and_eq_true,beq_iff_eq,bOf_iff,and_assoc]
def zrCount (x:api_Count):Prop:=x.W=0∧x.K=0∧x.Cap=0∧x.Now=0∧x.Buckets.length=0
theorem zeroCount (x:api_Count):ref11_Same x ⟨0,0,0,0, []⟩=some (bOf (zrCount x)):=by
 unfold ref11_Same
 rw [ref10_Same_nil]
 simp only [gd_some,Option.bind_some,and_cond]
 congr 1
 rw [Bool.eq_iff_iff,bOf_iff]
 unfold zrCount
 simp only [Bool.and_eq_true,beq_iff_eq,bOf_iff,and_assoc]
def zrSum (x:api_Sum):Prop:=x.W=0∧x.K=0∧x.Cap=0∧x.Max=0∧x.Now=0∧x.Buckets.length=0
theorem zeroSum (x:api_Sum):ref12_Same x ⟨0,0,0,0,0, []⟩=some (bOf (zrSum x)):=by
 unfold ref12_Same
 rw [ref10_Same_nil]
 simp only [gd_some,Option.bind_some,and_cond]
 congr 1
 rw [Bool.eq_iff_iff,bOf_iff]
 unfold zrSum
 simp only [Bool.and_eq_true,beq_iff_eq,bOf_iff,and_assoc]
def zrSmooth (x:api_Smooth):Prop:=x.Agg=0∧x.W=0∧x.K=0∧x.Cap=0∧x.Now=0∧x.Seq=0∧x.Marks.length=0
theorem zeroSmooth (x:api_Smooth):ref13_Same x ⟨0,0,0,0,0,0, []⟩=some (bOf (zrSmooth x)):=by
 unfold ref13_Same
 rw [ref13_SameMarks_nil]
 simp only [gd_some,Option.bind_some,and_cond]
 congr 1
 rw [Bool.eq_iff_iff,bOf_iff]
 unfold zrSmooth
 simp only [Bool.and_eq_true,beq_iff_eq,bOf_iff,and_assoc]
def zrSpread (x:api_Spread):Prop:=x.W=0∧x.K=0∧x.Cap=0∧x.Now=0∧x.Seq=0∧x.Marks.length=0
theorem zeroSpread (x:api_Spread):ref14_Same x ⟨0,0,0,0,0, []⟩=some (bOf (zrSpread x)):=by
 unfold ref14_Same
 rw [ref13_SameMarks_nil]
 simp only [gd_some,Option.bind_some,and_cond]
 congr 1
 rw [Bool.eq_iff_iff,bOf_iff]
 unfold zrSpread
 simp only [Bool.and_eq_true,beq_iff_eq,bOf_iff,and_assoc]
def zrPoly (x:api_Poly):Prop:=x.P=0∧x.Land=0∧x.Now=0∧x.Moments.length=0
theorem zeroPoly (x:api_Poly):ref15_Same x ⟨0,0,0, []⟩=some (bOf (zrPoly x)):=by
 unfold ref15_Same
 rw [ref15_SameWide_nil]
 simp only [gd_some,Option.bind_some,and_cond]
 congr 1
 rw [Bool.eq_iff_iff,bOf_iff]
 unfold zrPoly
 simp only [Bool.and_eq_true,beq_iff_eq,bOf_iff,and_assoc]
def zrHalve (x:api_Halve):Prop:=x.Now=0∧x.Sums.length=0
theorem zeroHalve (x:api_Halve):ref16_Same x ⟨0, []⟩=some (bOf (zrHalve x)):=by
 unfold ref16_Same
 rw [ref09_SameNumbers_nil]
 simp only [gd_some,Option.bind_some,and_cond]
 congr 1
 rw [Bool.eq_iff_iff,bOf_iff]
 unfold zrHalve
 simp only [Bool.and_eq_true,beq_iff_eq,bOf_iff,and_assoc]
def zrExtreme (x:api_Extreme):Prop:=x.Max=false∧x.W=0∧x.Cap=0∧x.Now=0∧x.Items.length=0
theorem zeroExtreme (x:api_Extreme):ref17_Same x ⟨false,0,0,0, []⟩=some (bOf (zrExtreme x)):=by
 unfold ref17_Same
 rw [ref05_SameItems_nil]
 simp only [gd_some,Option.bind_some,and_cond]
 congr 1
 rw [Bool.eq_iff_iff,bOf_iff]
 unfold zrExtreme
 simp only [Bool.and_eq_true,beq_iff_eq,bOf_iff,and_assoc]
def zrSample (x:api_Sample):Prop:=x.Chains.length=0
theorem zeroSample (x:api_Sample):ref19_Same x ⟨[]⟩=some (bOf (zrSample x)):=by
 unfold ref19_Same
 by_cases h:zrSample x
 ·have h' :=h
  unfold zrSample at h'
  rw [bOf_t h]
  have e:((x.Chains.length:Int) !=(([]:List api_Chain).length:Int))=false:=by simp [h']
  rw [e,cond_false]
  unfold ref19_Same_l3
  refine loop_inr ?_
  unfold ref19_Same_l3s
  rw [h'];rfl
 ·rw [bOf_f h]
  have e:((x.Chains.length:Int) !=(([]:List api_Chain).length:Int))=true:=by
   unfold zrSample at h
   rw [Bool.eq_iff_iff]
   simp only [Bool.or_eq_true,bne_iff_ne,List.length_nil,iff_true,Int.natCast_zero,ne_eq]
   omega
  rw [e,cond_true]
def zrSummary (x:api_Summary):Prop:=x.K=0∧x.Cap=0∧x.N=0∧x.Tuples.length=0
theorem zeroSummary (x:api_Summary):ref20_Same x ⟨0,0,0, []⟩=some (bOf (zrSummary x)):=by
 unfold ref20_Same
 by_cases h:zrSummary x
 ·have h' :=h
  unfold zrSummary at h'
  rw [bOf_t h]
  have e:((((x.K !=0)||(x.Cap !=0))||(x.N !=0))||((x.Tuples.length:Int) !=(([]:List api_Tuple).length:Int)))=false:=by simp [h']
  rw [e,cond_false]
  unfold ref20_Same_l3
  refine loop_inr ?_
  unfold ref20_Same_l3s
  rw [h'.2.2.2];rfl
 ·rw [bOf_f h]
  have e:((((x.K !=0)||(x.Cap !=0))||(x.N !=0))||((x.Tuples.length:Int) !=(([]:List api_Tuple).length:Int)))=true:=by
   unfold zrSummary at h
   rw [Bool.eq_iff_iff]
   simp only [Bool.or_eq_true,bne_iff_ne,List.length_nil,iff_true,Int.natCast_zero,ne_eq]
   omega
  rw [e,cond_true]
def zrQuantile (x:api_Quantile):Prop:=x.W=0∧x.K=0∧x.Cap=0∧x.Now=0∧x.Blocks.length=0
theorem zeroQuantile (x:api_Quantile):ref23_Same x ⟨0,0,0,0, []⟩=some (bOf (zrQuantile x)):=by
 unfold ref23_Same
 rw [ref22_Same_nil]
 simp only [gd_some,Option.bind_some,and_cond]
 congr 1
 rw [Bool.eq_iff_iff,bOf_iff]
 unfold zrQuantile
 simp only [Bool.and_eq_true,beq_iff_eq,bOf_iff,and_assoc]
theorem alone_eq (s:api_Synopsis):ref25_Alone s=⟨s.Config,if s.Config.Kind=1 then s.Recent else ⟨0,0,0, []⟩,if s.Config.Kind=2 then s.Count else ⟨0,0,0,0, []⟩,if s.Config.Kind=3 then s.Sum else ⟨0,0,0,0,0, []⟩,if s.Config.Kind=4 then s.Smooth else ⟨0,0,0,0,0,0, []⟩,if s.Config.Kind=5 then s.Spread else ⟨0,0,0,0,0, []⟩,if s.Config.Kind=6 then s.Poly else ⟨0,0,0, []⟩,if s.Config.Kind=7 then s.Halve else ⟨0, []⟩,if s.Config.Kind=8 then s.Extreme else ⟨false,0,0,0, []⟩,if s.Config.Kind=9 then s.Sample else ⟨[]⟩,if s.Config.Kind=10 then s.Summary else ⟨0,0,0, []⟩,if s.Config.Kind=11 then s.Quantile else ⟨0,0,0,0, []⟩⟩:=by
 unfold ref25_Alone ref25_Alone_j2
 by_cases hk:1≤s.Config.Kind∧s.Config.Kind≤11
 ·have:s.Config.Kind=1∨s.Config.Kind=2∨s.Config.Kind=3∨s.Config.Kind=4∨s.Config.Kind=5∨s.Config.Kind=6∨s.Config.Kind=7∨s.Config.Kind=8∨s.Config.Kind=9∨s.Config.Kind=10∨s.Config.Kind=11:=by omega
  rcases this with h|h|h|h|h|h|h|h|h|h|h
  all_goals
   rw [h]
   simp only [Int.reduceBEq,beq_self_eq_true,cond_true,cond_false,Int.reduceEq,if_true,if_false]
 ·have e: ∀j:Int,1≤j→j≤11→(s.Config.Kind==j)=false:=fun j h1 h2=>beq_eq_false_iff_ne.2 (by omega)
  have e2: ∀j:Int,1≤j→j≤11→ ¬s.Config.Kind=j:=fun j h1 h2=>by omega
  rw [e 1 (by decide) (by decide),e 2 (by decide) (by decide),e 3 (by decide) (by decide),e 4 (by decide) (by decide),e 5 (by decide) (by decide),e 6 (by decide) (by decide),e 7 (by decide) (by decide),e 8 (by decide) (by decide),e 9 (by decide) (by decide),e 10 (by decide) (by decide),e 11 (by decide) (by decide),if_neg (e2 1 (by decide) (by decide)),if_neg (e2 2 (by decide) (by decide)),if_neg (e2 3 (by decide) (by decide)),if_neg (e2 4 (by decide) (by decide)),if_neg (e2 5 (by decide) (by decide)),if_neg (e2 6 (by decide) (by decide)),if_neg (e2 7 (by decide) (by decide)),if_neg (e2 8 (by decide) (by decide)),if_neg (e2 9 (by decide) (by decide)),if_neg (e2 10 (by decide) (by decide)),if_neg (e2 11 (by decide) (by decide))]
  rfl
theorem aloneConfig (s:api_Synopsis):(ref25_Alone s).Config=s.Config:=by rw [alone_eq]
theorem aloneRecent (s:api_Synopsis):(ref25_Alone s).Recent=if s.Config.Kind=1 then s.Recent else ⟨0,0,0, []⟩:=by rw [alone_eq]
theorem aloneCount (s:api_Synopsis):(ref25_Alone s).Count=if s.Config.Kind=2 then s.Count else ⟨0,0,0,0, []⟩:=by rw [alone_eq]
theorem aloneSum (s:api_Synopsis):(ref25_Alone s).Sum=if s.Config.Kind=3 then s.Sum else ⟨0,0,0,0,0, []⟩:=by rw [alone_eq]
theorem aloneSmooth (s:api_Synopsis):(ref25_Alone s).Smooth=if s.Config.Kind=4 then s.Smooth else ⟨0,0,0,0,0,0, []⟩:=by rw [alone_eq]
theorem aloneSpread (s:api_Synopsis):(ref25_Alone s).Spread=if s.Config.Kind=5 then s.Spread else ⟨0,0,0,0,0, []⟩:=by rw [alone_eq]
theorem alonePoly (s:api_Synopsis):(ref25_Alone s).Poly=if s.Config.Kind=6 then s.Poly else ⟨0,0,0, []⟩:=by rw [alone_eq]
theorem aloneHalve (s:api_Synopsis):(ref25_Alone s).Halve=if s.Config.Kind=7 then s.Halve else ⟨0, []⟩:=by rw [alone_eq]
theorem aloneExtreme (s:api_Synopsis):(ref25_Alone s).Extreme=if s.Config.Kind=8 then s.Extreme else ⟨false,0,0,0, []⟩:=by rw [alone_eq]
theorem aloneSample (s:api_Synopsis):(ref25_Alone s).Sample=if s.Config.Kind=9 then s.Sample else ⟨[]⟩:=by rw [alone_eq]
theorem aloneSummary (s:api_Synopsis):(ref25_Alone s).Summary=if s.Config.Kind=10 then s.Summary else ⟨0,0,0, []⟩:=by rw [alone_eq]
theorem aloneQuantile (s:api_Synopsis):(ref25_Alone s).Quantile=if s.Config.Kind=11 then s.Quantile else ⟨0,0,0,0, []⟩:=by rw [alone_eq]
def othersP (s:api_Synopsis):Prop:=(s.Config.Kind≠1→zrRecent s.Recent)∧(s.Config.Kind≠2→zrCount s.Count)∧(s.Config.Kind≠3→zrSum s.Sum)∧(s.Config.Kind≠4→zrSmooth s.Smooth)∧(s.Config.Kind≠5→zrSpread s.Spread)∧(s.Config.Kind≠6→zrPoly s.Poly)∧(s.Config.Kind≠7→zrHalve s.Halve)∧(s.Config.Kind≠8→zrExtreme s.Extreme)∧(s.Config.Kind≠9→zrSample s.Sample)∧(s.Config.Kind≠10→zrSummary s.Summary)∧(s.Config.Kind≠11→zrQuantile s.Quantile)
theorem same_if {α:Type} {Same:α→α→Option Bool} {x z:α} {zr:Prop} {k j:Int} (hr:Same x x=some true) (hz:Same x z=some (bOf zr)):Same x (if k=j then x else z)=some (bOf (k≠j→zr)):=by
 by_cases h:k=j
 ·rw [if_pos h,hr,bOf_t fun h2=>absurd h h2]
 ·rw [if_neg h,hz]
  congr 1
  rw [Bool.eq_iff_iff,bOf_iff,bOf_iff]
  exact ⟨fun h2 _=>h2,fun h2=>h2 h⟩
theorem same_alone (s:api_Synopsis) (w:wfU_api_Synopsis s):ref25_Same s (ref25_Alone s)=some (bOf (othersP s)):=by
 obtain ⟨_,w1,w2,w3,w4,w5,w6,w7,w8,w9,w10,w11⟩:=w
 have e1:=same_if (k:=s.Config.Kind) (j:=1) (same9_refl s.Recent (len_max w1.2.2.2.1)) (zeroRecent s.Recent)
 have e2:=same_if (k:=s.Config.Kind) (j:=2) (same11_refl s.Count (len_max w2.2.2.2.2.1)) (zeroCount s.Count)
 have e3:=same_if (k:=s.Config.Kind) (j:=3) (same12_refl s.Sum (len_max w3.2.2.2.2.2.1)) (zeroSum s.Sum)
 have e4:=same_if (k:=s.Config.Kind) (j:=4) (same13_refl s.Smooth (len_max w4.2.2.2.2.2.2.1)) (zeroSmooth s.Smooth)
 have e5:=same_if (k:=s.Config.Kind) (j:=5) (same14_refl s.Spread (len_max w5.2.2.2.2.2.1)) (zeroSpread s.Spread)
 have e6:=same_if (k:=s.Config.Kind) (j:=6) (same15_refl s.Poly (len_max w6.2.2.2.1)) (zeroPoly s.Poly)
 have e7:=same_if (k:=s.Config.Kind) (j:=7) (same16_refl s.Halve (len_max w7.2.1)) (zeroHalve s.Halve)
 have e8:=same_if (k:=s.Config.Kind) (j:=8) (same17_refl s.Extreme (len_max w8.2.2.2.2.1)) (zeroExtreme s.Extreme)
 have e9:=same_if (k:=s.Config.Kind) (j:=9) (same19_refl s.Sample (len_max w9.1) (fun c hc=>len_max (w9.2 c hc).2.2.2.2.1)) (zeroSample s.Sample)
 have e10:=same_if (k:=s.Config.Kind) (j:=10) (same20_refl s.Summary (len_max w10.2.2.2.1)) (zeroSummary s.Summary)
 have e11:=same_if (k:=s.Config.Kind) (j:=11) (same23_refl s.Quantile (len_max w11.2.2.2.2.1) (fun b hb=>len_max (w11.2.2.2.2.2 b hb).2.2.2.2.1)) (zeroQuantile s.Quantile)
 unfold ref25_Same
 rw [aloneConfig,aloneRecent,e1,aloneCount,e2,aloneSum,e3,aloneSmooth,e4,aloneSpread,e5,alonePoly,e6,aloneHalve,e7,aloneExtreme,e8,aloneSample,e9,aloneSummary,e10,aloneQuantile,e11]
 simp only [beq_self_eq_true,Bool.true_and,gd_some,cond_true,Option.bind_some,and_cond]
 congr 1
 rw [Bool.eq_iff_iff,bOf_iff]
 unfold othersP
 simp only [Bool.and_eq_true,bOf_iff,and_assoc]
theorem others_eq (s:api_Synopsis):synopsis_others s=bOf (othersP s):=by
 unfold synopsis_others
 rw [Bool.eq_iff_iff,bOf_iff]
 unfold othersP
 unfold zrRecent
 unfold zrCount
 unfold zrSum
 unfold zrSmooth
 unfold zrSpread
 unfold zrPoly
 unfold zrHalve
 unfold zrExtreme
 unfold zrSample
 unfold zrSummary
 unfold zrQuantile
 simp only [cond_ite,Bool.and_eq_true,Bool.or_eq_true,bne_iff_ne,beq_iff_eq,decide_eq_true_eq,ne_eq]
 have fin: ∀ {c:Prop} [Decidable c] {b:Bool},((if c then false else b)=true)↔(¬c∧b=true):=by
  intro c _ b
  by_cases h:c
  ·rw [if_pos h];exact ⟨fun h2=>(by cases h2),fun h2=>absurd h h2.1⟩
  ·rw [if_neg h];exact ⟨fun h2=>⟨h,h2⟩,fun h2=>h2.2⟩
 simp only [fin,Bool.or_eq_true,Bool.and_eq_true,beq_iff_eq]
 cases s.Extreme.Max
 ·simp only [Bool.false_eq_true,false_or,true_and]
  repeat' apply and_congr
  all_goals first|omega|(simp;done)|(simp;omega)
 ·simp only [true_or,Bool.true_eq_false,false_and]
  repeat' apply and_congr
  all_goals first|omega|(simp;done)|(simp;omega)
def okSa (x:api_Sample):Prop:=sample_Validate x=some 0
theorem sample_val (x:api_Sample) (hl:x.Chains.length≤maxLen) (hc: ∀c∈x.Chains,c.Links.length≤maxLen): ∃r,sample_Validate x=some r∧ref19_Validate x=some r∧(r==0)=bOf (okSa x)∧(r=0→0<x.Chains.length):=by
 obtain ⟨r,h1,h2⟩:=validate19_total x hl hc
 refine ⟨r,h1,by rw [←validate19_eq x hc];exact h1, ?_,fun h=>by have:=(h2 h).1;omega⟩
 rw [Bool.eq_iff_iff,bOf_iff,beq_iff_eq]
 unfold okSa
 rw [h1]
 simp
theorem recent_val (x:api_Recent) (hl:x.Items.length≤maxLen):recent_Validate x=some (vOf (okV x=true))∧ref09_Validate x=some (vOf (okV x=true)):=by
 have h:ref09_Validate x=some (vOf (okV x=true)):=by
  rw [validate9_spec x hl]
  by_cases h:okV x=true
  ·rw [if_pos h,vOf_t h]
  ·rw [if_neg h,vOf_f h]
 exact ⟨by rw [validate9_eq];exact h,h⟩
def rightS (s:api_Synopsis):Prop:=
 (s.Config.Kind=1∧okV s.Recent=true∧s.Recent.W=s.Config.W∧s.Recent.Cap=s.Config.Cap)∨
 (s.Config.Kind=2∧okHist s.Count.Buckets s.Count.W s.Count.K s.Count.Cap s.Count.Now∧s.Count.W=s.Config.W∧s.Count.K=s.Config.K∧s.Count.Cap=s.Config.Cap)∨
 (s.Config.Kind=3∧okSum s.Sum∧s.Sum.W=s.Config.W∧s.Sum.K=s.Config.K∧s.Sum.Cap=s.Config.Cap∧s.Sum.Max=s.Config.Max)∨
 (s.Config.Kind=4∧okSm s.Smooth∧s.Smooth.W=s.Config.W∧s.Smooth.K=s.Config.K∧s.Smooth.Cap=s.Config.Cap∧s.Smooth.Agg=s.Config.Agg)∨
 (s.Config.Kind=5∧okSp s.Spread∧s.Spread.W=s.Config.W∧s.Spread.K=s.Config.K∧s.Spread.Cap=s.Config.Cap)∨
 (s.Config.Kind=6∧okPl s.Poly∧s.Poly.P=s.Config.P)∨
 (s.Config.Kind=7∧okHv s.Halve∧(s.Halve.Sums.length:Int)=s.Config.W)∨
 (s.Config.Kind=8∧okEx s.Extreme∧s.Extreme.W=s.Config.W∧s.Extreme.Cap=s.Config.Cap∧s.Extreme.Max=(s.Config.Max==1))∨
 (s.Config.Kind=9∧okSa s.Sample∧(s.Sample.Chains.length:Int)=s.Config.Chains∧(el s.Sample.Chains 0).W=s.Config.W∧(el s.Sample.Chains 0).Cap=s.Config.Cap)∨
 (s.Config.Kind=10∧okSu s.Summary∧s.Summary.K=s.Config.K∧s.Summary.Cap=s.Config.Cap)∨
 (s.Config.Kind=11∧okQt s.Quantile∧s.Quantile.W=s.Config.W∧s.Quantile.K=s.Config.K∧s.Quantile.Cap=s.Config.Cap)
theorem right_made (s:api_Synopsis) (w:wfU_api_Synopsis s) (hk:1≤s.Config.Kind∧s.Config.Kind≤11):synopsis_right s=some (bOf (rightS s))∧ref25_made s=some (bOf (rightS s)):=by
 obtain ⟨_,w1,w2,w3,w4,w5,w6,w7,w8,w9,w10,w11⟩:=w
 have e1:=recent_val s.Recent (len_max w1.2.2.2.1)
 have e2:=count_validate s.Count (len_max w2.2.2.2.2.1)
 have e2' :=ref11_validate s.Count (len_max w2.2.2.2.2.1)
 have e3:=sum_validate s.Sum (len_max w3.2.2.2.2.2.1)
 have e3' :=ref12_validate s.Sum (len_max w3.2.2.2.2.2.1)
 have e4:=smooth_validate s.Smooth (len_max w4.2.2.2.2.2.2.1)
 have e4' :=ref13_validate s.Smooth (len_max w4.2.2.2.2.2.2.1)
 have e5:=spread_validate s.Spread (len_max w5.2.2.2.2.2.1)
 have e5' :=ref14_validate s.Spread (len_max w5.2.2.2.2.2.1)
 have e6:=poly_validate s.Poly (wide_okU w6.2.2.2.2)
 have e6' :=ref15_validate s.Poly (wide_okU w6.2.2.2.2)
 have e7:=halve_validate s.Halve (len_max w7.2.1)
 have e7' :=ref16_validate s.Halve (len_max w7.2.1)
 have e8:=extreme_validate s.Extreme (len_max w8.2.2.2.2.1)
 have e8' :=ref17_validate s.Extreme (len_max w8.2.2.2.2.1)
 obtain ⟨r9,e9,e9',b9,p9⟩:=sample_val s.Sample (len_max w9.1) (fun c hc=>len_max (w9.2 c hc).2.2.2.2.1)
 have e10:=summary_validate s.Summary
 have e10' :=ref20_validate s.Summary
 have hb:smallBl s.Quantile.Blocks:=⟨w11.2.2.2.2.1,fun x hx=>(w11.2.2.2.2.2 x hx).2.2.2.2.1⟩
 have e11:=quantile_validate s.Quantile hb
 have e11' :=ref23_validate s.Quantile hb
 have e: ∀j:Int,s.Config.Kind≠j→(s.Config.Kind==j)=false:=fun j h=>beq_eq_false_iff_ne.2 h
 unfold rightS synopsis_right ref25_made
 rw [e1.1,e1.2,e2,e2',e3,e3',e4,e4',e5,e5',e6,e6',e7,e7',e8,e8',e9,e9',e10,e10',e11,e11']
 have:s.Config.Kind=1∨s.Config.Kind=2∨s.Config.Kind=3∨s.Config.Kind=4∨s.Config.Kind=5∨s.Config.Kind=6∨s.Config.Kind=7∨s.Config.Kind=8∨s.Config.Kind=9∨s.Config.Kind=10∨s.Config.Kind=11:=by omega
 rcases this with h|h|h|h|h|h|h|h|h|h|h
 all_goals rw [h]
 case inr.inr.inr.inr.inr.inr.inr.inr.inl=>
  simp only [Int.reduceBEq,beq_self_eq_true,cond_true,cond_false,Option.bind_some,b9,Int.reduceEq,false_and,false_or,or_false,true_and]
  by_cases q1:okSa s.Sample∧(s.Sample.Chains.length:Int)=s.Config.Chains
  ·have h0:0<s.Sample.Chains.length:=p9 (by have:=bOf_t q1.1;rw [←b9,beq_iff_eq] at this;exact this)
   have g:(bOf (okSa s.Sample)&&((s.Sample.Chains.length:Int)==s.Config.Chains))=true:=by
    rw [Bool.and_eq_true,bOf_iff,beq_iff_eq];exact q1
   rw [g,el_idx0 h0]
   simp only [gd_true,Option.bind_some,Bool.true_and]
   have fin:some (((el s.Sample.Chains 0).W==s.Config.W)&&((el s.Sample.Chains 0).Cap==s.Config.Cap))=some (bOf (okSa s.Sample∧(s.Sample.Chains.length:Int)=s.Config.Chains∧(el s.Sample.Chains 0).W=s.Config.W∧(el s.Sample.Chains 0).Cap=s.Config.Cap)):=by
    congr 1
    rw [Bool.eq_iff_iff,bOf_iff,Bool.and_eq_true,beq_iff_eq,beq_iff_eq]
    exact ⟨fun h=>⟨q1.1,q1.2,h.1,h.2⟩,fun h=>⟨h.2.2.1,h.2.2.2⟩⟩
   rw [←fin]
   cases ((el s.Sample.Chains 0).W==s.Config.W)<;>exact ⟨rfl,rfl⟩
  ·have g:(bOf (okSa s.Sample)&&((s.Sample.Chains.length:Int)==s.Config.Chains))=false:=by
    rw [Bool.eq_false_iff,Ne,Bool.and_eq_true,bOf_iff,beq_iff_eq];exact q1
   rw [g]
   simp only [gd_false,Option.bind_some,Bool.false_and]
   rw [bOf_f fun h=>q1 ⟨h.1,h.2.1⟩]
   exact ⟨rfl,rfl⟩
 all_goals
  simp only [Int.reduceBEq,beq_self_eq_true,cond_true,cond_false,Option.bind_some,vOf_beq,Int.reduceEq,false_and,false_or,or_false,true_and]
  constructor<;>congr 1<;>rw [Bool.eq_iff_iff,bOf_iff]<;>simp only [Bool.and_eq_true,bOf_iff,beq_iff_eq]<;>grind
def okSy (s:api_Synopsis):Prop:=cfgP s.Config∧rightS s∧othersP s
theorem synopsis_validate (s:api_Synopsis) (w:wfU_api_Synopsis s):synopsis_Validate s=some (vOf (okSy s))∧ref25_Validate s=some (vOf (okSy s)):=by
 unfold synopsis_Validate ref25_Validate
 simp only []
 rw [config_validate,ref24_validate,others_eq,same_alone s w]
 by_cases h1:cfgP s.Config
 ·obtain ⟨g1,g2⟩:=right_made s w h1.1
  rw [vCf_t h1,g1,g2]
  by_cases h2:rightS s
  ·rw [bOf_t h2]
   by_cases h3:othersP s
   ·rw [bOf_t h3,vOf_t ⟨h1,h2,h3⟩];exact ⟨rfl,rfl⟩
   ·rw [bOf_f h3,vOf_f fun h=>h3 h.2.2];exact ⟨rfl,rfl⟩
  ·rw [bOf_f h2,vOf_f fun h=>h2 h.2.1];exact ⟨rfl,rfl⟩
 ·rw [vCf_f h1,vOf_f fun h=>h1 h.1];exact ⟨rfl,rfl⟩
end Go.Win
