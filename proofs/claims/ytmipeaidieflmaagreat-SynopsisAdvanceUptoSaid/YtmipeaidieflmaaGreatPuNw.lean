/- Pu: chapter 25: empty synopses, numbers of records. -/
import Derived.Test.YtmipeaidieflmaaGreatPuSy
set_option linter.unusedVariables false
set_option linter.unusedSimpArgs false
set_option linter.unnecessarySimpa false
set_option linter.unusedSectionVars false
namespace Go.Win
open Go.Vc Go.Dec
def zeroS:api_Synopsis:=⟨⟨0,0,0,0,0,0,0,0⟩,⟨0,0,0, []⟩,⟨0,0,0,0, []⟩,⟨0,0,0,0,0, []⟩,⟨0,0,0,0,0,0, []⟩,⟨0,0,0,0,0, []⟩,⟨0,0,0, []⟩,⟨0, []⟩,⟨false,0,0,0, []⟩,⟨[]⟩,⟨0,0,0, []⟩,⟨0,0,0,0, []⟩⟩
def newS (c:api_Config) (now:Int):api_Synopsis:=⟨c,if c.Kind=1 then ⟨c.W,c.Cap,now, []⟩ else ⟨0,0,0, []⟩,
 if c.Kind=2 then ⟨c.W,c.K,c.Cap,now, []⟩ else ⟨0,0,0,0, []⟩,
 if c.Kind=3 then ⟨c.W,c.K,c.Cap,c.Max,now, []⟩ else ⟨0,0,0,0,0, []⟩,
 if c.Kind=4 then ⟨c.Agg,c.W,c.K,c.Cap,now,0, []⟩ else ⟨0,0,0,0,0,0, []⟩,
 if c.Kind=5 then ⟨c.W,c.K,c.Cap,now,0, []⟩ else ⟨0,0,0,0,0, []⟩,
 if c.Kind=6 then ⟨c.P,now,now,List.replicate (c.P+1).toNat ⟨0,0⟩⟩ else ⟨0,0,0, []⟩,
 if c.Kind=7 then ⟨now,List.replicate c.W.toNat 0⟩ else ⟨0, []⟩,
 if c.Kind=8 then ⟨c.Max==1,c.W,c.Cap,now, []⟩ else ⟨false,0,0,0, []⟩,
 if c.Kind=9 then ⟨List.replicate c.Chains.toNat ⟨c.W,c.Cap,0,0, []⟩⟩ else ⟨[]⟩,
 if c.Kind=10 then ⟨c.K,c.Cap,0, []⟩ else ⟨0,0,0, []⟩,
 if c.Kind=11 then ⟨c.W,c.K,c.Cap,now, []⟩ else ⟨0,0,0,0, []⟩⟩
theorem new_recent {w c n:Int} (h1:1≤w∧w≤1048576) (h2:1≤c∧c≤65536) (h3:0≤n∧n≤16777216):recent_New w c n=(⟨w,c,n, []⟩,0)∧ref09_New w c n=(⟨w,c,n, []⟩,0):=by
 unfold recent_New ref09_New
 simp only [good_eq,(may_iff w c n).2 ⟨h1,h2,h3⟩]
 exact ⟨rfl,rfl⟩
theorem new_count {w k c n:Int} (h:parP w k c n):count_New w k c n=(⟨w,k,c,n, []⟩,0)∧ref11_New w k c n=(⟨w,k,c,n, []⟩,0):=by
 unfold count_New ref11_New
 simp only [(count_good_iff w k c n).2 h,(may_iff w c n).2 ⟨h.1,h.2.1,h.2.2.1⟩,(mayK_iff k).2 h.2.2.2]
 exact ⟨rfl,rfl⟩
theorem new_sum {w k c m n:Int} (h:parP w k c n) (hm:1≤m∧m≤1024):sum_New w k c m n=(⟨w,k,c,m,n, []⟩,0)∧ref12_New w k c m n=(⟨w,k,c,m,n, []⟩,0):=by
 unfold sum_New ref12_New
 have e:ref12_MayMax m=true:=by unfold ref12_MayMax;simp;exact hm
 simp only [(sum_good_iff w k c m n).2 ⟨h,hm⟩,(may_iff w c n).2 ⟨h.1,h.2.1,h.2.2.1⟩,(mayK_iff k).2 h.2.2.2,e]
 exact ⟨rfl,rfl⟩
theorem new_smooth {a w k c n:Int} (h:parP w k c n) (ha:1≤a∧a≤4):smooth_New a w k c n=(⟨a,w,k,c,n,0, []⟩,0)∧ref13_New a w k c n=(⟨a,w,k,c,n,0, []⟩,0):=by
 unfold smooth_New ref13_New
 have e:ref13_MayAgg a=true:=by unfold ref13_MayAgg;simp;exact ha
 have e1:smooth_good a w k c n=true:=by
  unfold smooth_good
  simp only [(good13 _ _ _ _).2 h,Bool.and_true,Bool.and_eq_true,decide_eq_true_eq]
  exact ha
 simp only [e1,(may_iff w c n).2 ⟨h.1,h.2.1,h.2.2.1⟩,(mayK_iff k).2 h.2.2.2,e]
 exact ⟨rfl,rfl⟩
theorem new_spread {w k c n:Int} (h:parP w k c n):spread_New w k c n=(⟨w,k,c,n,0, []⟩,0)∧ref14_New w k c n=(⟨w,k,c,n,0, []⟩,0):=by
 unfold spread_New ref14_New
 simp only [(good13 w k c n).2 h,(may_iff w c n).2 ⟨h.1,h.2.1,h.2.2.1⟩,(mayK_iff k).2 h.2.2.2]
 exact ⟨rfl,rfl⟩
theorem new_poly {p n:Int} (hp:0≤p∧p≤4) (hn:0≤n∧n≤16777216):poly_New p n=some (⟨p,n,n,List.replicate (p+1).toNat ⟨0,0⟩⟩,0)∧ref15_New p n=some (⟨p,n,n,List.replicate (p+1).toNat ⟨0,0⟩⟩,0):=by
 have h:ref15_New p n=some (⟨p,n,n,List.replicate (p+1).toNat ⟨0,0⟩⟩,0):=by
  unfold ref15_New
  have e:(((decide (p<(0:Int)))||(decide (p>(4:Int))))||(!(ref06_Tick n)))=false:=by
   rw [(tick_iffP n).2 hn];simp;omega
  simp only [e,cond_false,w64_id (n:=p+1) (by omega) (by omega)]
  rw [decide_eq_true (by omega),ck_true]
 exact ⟨h,h⟩
theorem new_halve {w n:Int} (hw:1≤w∧w≤64) (hn:0≤n∧n≤16777216):halve_New w n=some (⟨n,List.replicate w.toNat 0⟩,0)∧ref16_New w n=some (⟨n,List.replicate w.toNat 0⟩,0):=by
 unfold halve_New ref16_New
 have e1:((((decide (w<(1:Int)))||(decide (w>(64:Int))))||(decide (n<(0:Int))))||(decide (n>(16777216:Int))))=false:=by simp;omega
 have e2:(((decide (w<(1:Int)))||(decide (w>(64:Int))))||(!(ref06_Tick n)))=false:=by
  rw [(tick_iffP n).2 hn];simp;omega
 simp only [e1,e2,cond_false]
 rw [decide_eq_true (by omega),ck_true]
 exact ⟨rfl,rfl⟩
theorem new_extreme {m:Bool} {w c n:Int} (h1:1≤w∧w≤1048576) (h2:1≤c∧c≤65536) (h3:0≤n∧n≤16777216):extreme_New m w c n=(⟨m,w,c,n, []⟩,0)∧ref17_New m w c n=(⟨m,w,c,n, []⟩,0):=by
 unfold extreme_New ref17_New
 simp only [may_eq17,(may_iff w c n).2 ⟨h1,h2,h3⟩]
 exact ⟨rfl,rfl⟩
theorem new_sample {n w c:Int} (hn:1≤n∧n≤16) (hw:1≤w∧w≤1048576) (hc:1≤c∧c≤64):sample_New n w c=some (⟨List.replicate n.toNat ⟨w,c,0,0, []⟩⟩,0)∧ref19_New n w c=some (⟨List.replicate n.toNat ⟨w,c,0,0, []⟩⟩,0):=by
 have e:(decide (n<(1:Int))||decide (n>(16:Int)))=false:=by simp;omega
 have e2:chain_New w c=(⟨w,c,0,0, []⟩,0):=by
  unfold chain_New
  have:((((decide (w<(1:Int)))||(decide (w>(1048576:Int))))||(decide (c<(1:Int))))||(decide (c>(64:Int))))=false:=by simp;omega
  rw [this,cond_false]
 unfold sample_New ref19_New
 rw [e,cond_false,cond_false,new19 n w c hn.1 hn.2,newR19 n w c hn.1 hn.2,←new18_eq,e2]
 exact ⟨rfl,rfl⟩
theorem new_summary {k c:Int} (hk:1≤k∧k≤64) (hc:2≤c∧c≤65536):summary_New k c=(⟨k,c,0, []⟩,0)∧ref20_New k c=(⟨k,c,0, []⟩,0):=by
 unfold summary_New ref20_New
 have e1:((((decide (k<(1:Int)))||(decide (k>(64:Int))))||(decide (c<(2:Int))))||(decide (c>(65536:Int))))=false:=by simp;omega
 have e2:(((!(ref11_MayK k))||(decide (c<(2:Int))))||(decide (c>(65536:Int))))=false:=by
  rw [(mayK_iff k).2 hk];simp;omega
 simp only [e1,e2,cond_false]
 exact ⟨trivial,trivial⟩
theorem new_quantile {w k c n:Int} (h:parP w k c n):quantile_New w k c n=(⟨w,k,c,n, []⟩,0)∧ref23_New w k c n=(⟨w,k,c,n, []⟩,0):=by
 unfold quantile_New ref23_New
 simp only [(quantile_good_iff w k c n).2 h,(may_iff w c n).2 ⟨h.1,h.2.1,h.2.2.1⟩,(mayK_iff k).2 h.2.2.2]
 exact ⟨rfl,rfl⟩
theorem new_eq {c:api_Config} {now:Int} (hc:cfgP c) (hn:0≤now∧now≤16777216):synopsis_New c now=some (newS c now,0)∧ref25_New c now=some (newS c now,0):=by
 unfold synopsis_New ref25_New
 have et:synopsis_tick now=true:=(tick_iffP now).2 hn
 simp only [config_validate,ref24_validate,vCf_t hc,et,(tick_iffP now).2 hn,bne_self_eq_false,Bool.not_true,cond_false]
 obtain ⟨k,agg,w,kk,cap,p,ch,mx⟩:=c
 have hc' :=hc
 unfold cfgP at hc'
 simp only [] at hc'
 have:k=1∨k=2∨k=3∨k=4∨k=5∨k=6∨k=7∨k=8∨k=9∨k=10∨k=11:=by omega
 rcases this with h|h|h|h|h|h|h|h|h|h|h<;>subst h<;>simp only [Int.reduceBEq,beq_self_eq_true,cond_true,cond_false]
 ·obtain ⟨e1,e2⟩:=new_recent (w:=w) (c:=cap) (n:=now) (by omega) (by omega) hn
  rw [e1,e2];exact ⟨rfl,rfl⟩
 ·obtain ⟨e1,e2⟩:=new_count (w:=w) (k:=kk) (c:=cap) (n:=now) ⟨by omega,by omega,hn,by omega⟩
  rw [e1,e2];exact ⟨rfl,rfl⟩
 ·obtain ⟨e1,e2⟩:=new_sum (w:=w) (k:=kk) (c:=cap) (n:=now) (m:=mx) ⟨by omega,by omega,hn,by omega⟩ (by omega)
  rw [e1,e2];exact ⟨rfl,rfl⟩
 ·obtain ⟨e1,e2⟩:=new_smooth (a:=agg) (w:=w) (k:=kk) (c:=cap) (n:=now) ⟨by omega,by omega,hn,by omega⟩ (by omega)
  rw [e1,e2];exact ⟨rfl,rfl⟩
 ·obtain ⟨e1,e2⟩:=new_spread (w:=w) (k:=kk) (c:=cap) (n:=now) ⟨by omega,by omega,hn,by omega⟩
  rw [e1,e2];exact ⟨rfl,rfl⟩
 ·obtain ⟨e1,e2⟩:=new_poly (p:=p) (n:=now) (by omega) hn
  rw [e1,e2];exact ⟨rfl,rfl⟩
 ·obtain ⟨e1,e2⟩:=new_halve (w:=w) (n:=now) (by omega) hn
  rw [e1,e2];exact ⟨rfl,rfl⟩
 ·obtain ⟨e1,e2⟩:=new_extreme (m:=(mx==1)) (w:=w) (c:=cap) (n:=now) (by omega) (by omega) hn
  rw [e1,e2];exact ⟨rfl,rfl⟩
 ·obtain ⟨e1,e2⟩:=new_sample (n:=ch) (w:=w) (c:=cap) (by omega) (by omega) (by omega)
  rw [e1,e2];exact ⟨rfl,rfl⟩
 ·obtain ⟨e1,e2⟩:=new_summary (k:=kk) (c:=cap) (by omega) (by omega)
  rw [e1,e2];exact ⟨rfl,rfl⟩
 ·obtain ⟨e1,e2⟩:=new_quantile (w:=w) (k:=kk) (c:=cap) (n:=now) ⟨by omega,by omega,hn,by omega⟩
  rw [e1,e2];exact ⟨rfl,rfl⟩
def lenS (s:api_Synopsis):Prop:=s.Recent.Items.length≤maxLen∧s.Count.Buckets.length≤maxLen∧s.Sum.Buckets.length≤maxLen∧s.Smooth.Marks.length≤maxLen∧s.Spread.Marks.length≤maxLen∧s.Poly.Moments.length≤maxLen∧s.Halve.Sums.length≤maxLen∧s.Extreme.Items.length≤maxLen∧
 (s.Sample.Chains.length≤maxLen∧ ∀c∈s.Sample.Chains,c.Links.length≤maxLen)∧s.Summary.Tuples.length≤maxLen∧(s.Quantile.Blocks.length≤maxLen∧ ∀b∈s.Quantile.Blocks,b.Ranks.Entries.length≤maxLen)
theorem same25_refl (s:api_Synopsis) (h:lenS s):ref25_Same s s=some true:=by
 obtain ⟨h1,h2,h3,h4,h5,h6,h7,h8,h9,h10,h11⟩:=h
 unfold ref25_Same
 rw [same9_refl _ h1,same11_refl _ h2,same12_refl _ h3,same13_refl _ h4,same14_refl _ h5,same15_refl _ h6,same16_refl _ h7,same17_refl _ h8,same19_refl _ h9.1 h9.2,same20_refl _ h10,same23_refl _ h11.1 h11.2]
 simp
theorem lenS_of (s:api_Synopsis) (w:wfU_api_Synopsis s):lenS s:=by
 obtain ⟨_,w1,w2,w3,w4,w5,w6,w7,w8,w9,w10,w11⟩:=w
 exact ⟨len_max w1.2.2.2.1,len_max w2.2.2.2.2.1,len_max w3.2.2.2.2.2.1,len_max w4.2.2.2.2.2.2.1,len_max w5.2.2.2.2.2.1,len_max w6.2.2.2.1,len_max w7.2.1,len_max w8.2.2.2.2.1,
  ⟨len_max w9.1,fun c hc=>len_max (w9.2 c hc).2.2.2.2.1⟩,len_max w10.2.2.2.1,⟨len_max w11.2.2.2.2.1,fun b hb=>len_max (w11.2.2.2.2.2 b hb).2.2.2.2.1⟩⟩
theorem nil_max {α:Type}:([]:List α).length≤maxLen:=Nat.zero_le _
theorem zeroS_len:lenS zeroS:=⟨nil_max,nil_max,nil_max,nil_max,nil_max,nil_max,nil_max,nil_max,⟨nil_max,fun c h=>by cases h⟩,nil_max,⟨nil_max,fun c h=>by cases h⟩⟩
theorem newS_wf {c:api_Config} {now:Int} (hc:cfgP c) (hn:0≤now∧now≤16777216):wfU_api_Synopsis (newS c now):=by
 have i64: ∀ {n:Int},-9223372036854775808≤n∧n≤9223372036854775807→wfI .i64 n:=by
  intro n h
  simp [wfI,Lit.wf,IntKind.min,IntKind.max,IntKind.signed,IntKind.bits]
  omega
 have z:wfI .i64 0:=i64 (by omega)
 have hc' :=hc
 unfold cfgP at hc'
 have i1:wfI .i64 c.Kind:=i64 (by omega)
 have i2:wfI .i64 c.Agg:=i64 (by omega)
 have i3:wfI .i64 c.W:=i64 (by omega)
 have i4:wfI .i64 c.K:=i64 (by omega)
 have i5:wfI .i64 c.Cap:=i64 (by omega)
 have i6:wfI .i64 c.P:=i64 (by omega)
 have i7:wfI .i64 c.Chains:=i64 (by omega)
 have i8:wfI .i64 c.Max:=i64 (by omega)
 have i9:wfI .i64 now:=i64 (by omega)
 have nl: ∀ {α:Type} {wf:α→Prop},wfLU wf ([]:List α):=⟨Nat.zero_le _,fun y h=>by cases h⟩
 have hz:wfI .u64 0:=by simp [wfI,Lit.wf,IntKind.min,IntKind.max,IntKind.signed,IntKind.bits]
 have ite: ∀ {α:Type} {wf:α→Prop} {p:Prop} [Decidable p] {a b:α},wf a→wf b→wf (if p then a else b):=by
  intro α wf p _ a b ha hb
  split<;>assumption
 refine ⟨⟨i1,i2,i3,i4,i5,i6,i7,i8⟩,ite (wf:=wfU_api_Recent) ?_ ?_,ite (wf:=wfU_api_Count) ?_ ?_,ite (wf:=wfU_api_Sum) ?_ ?_,ite (wf:=wfU_api_Smooth) ?_ ?_,ite (wf:=wfU_api_Spread) ?_ ?_, ?_, ?_,ite (wf:=wfU_api_Extreme) ?_ ?_, ?_,ite (wf:=wfU_api_Summary) ?_ ?_,ite (wf:=wfU_api_Quantile) ?_ ?_⟩
 ·exact ⟨i3,i5,i9,nl⟩
 ·exact ⟨z,z,z,nl⟩
 ·exact ⟨i3,i4,i5,i9,nl⟩
 ·exact ⟨z,z,z,z,nl⟩
 ·exact ⟨i3,i4,i5,i8,i9,nl⟩
 ·exact ⟨z,z,z,z,z,nl⟩
 ·exact ⟨i2,i3,i4,i5,i9,z,nl⟩
 ·exact ⟨z,z,z,z,z,z,nl⟩
 ·exact ⟨i3,i4,i5,i9,z,nl⟩
 ·exact ⟨z,z,z,z,z,nl⟩
 ·show wfU_api_Poly (if c.Kind=6 then _ else _)
  by_cases h:c.Kind=6
  ·rw [if_pos h]
   refine ⟨i6,i9,i9, ?_,fun y hy=> ?_⟩
   ·rw [List.length_replicate];omega
   ·rw [List.eq_of_mem_replicate hy];exact ⟨hz,hz⟩
  ·rw [if_neg h]
   exact ⟨z,z,z,nl⟩
 ·show wfU_api_Halve (if c.Kind=7 then _ else _)
  by_cases h:c.Kind=7
  ·rw [if_pos h]
   refine ⟨i9, ?_,fun y hy=> ?_⟩
   ·rw [List.length_replicate];omega
   ·rw [List.eq_of_mem_replicate hy];exact z
  ·rw [if_neg h]
   exact ⟨z,nl⟩
 ·exact ⟨trivial,i3,i5,i9,nl⟩
 ·exact ⟨trivial,z,z,z,nl⟩
 ·show wfU_api_Sample (if c.Kind=9 then _ else _)
  by_cases h:c.Kind=9
  ·rw [if_pos h]
   refine ⟨?_,fun y hy=> ?_⟩
   ·rw [List.length_replicate];omega
   ·rw [List.eq_of_mem_replicate hy];exact ⟨i3,i5,z,z,nl⟩
  ·rw [if_neg h]
   exact nl
 ·exact ⟨i4,i5,z,nl⟩
 ·exact ⟨z,z,z,nl⟩
 ·exact ⟨i3,i4,i5,i9,nl⟩
 ·exact ⟨z,z,z,z,nl⟩
end Go.Win
