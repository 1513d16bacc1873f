/- Pu: chapter 10: which lists of buckets are valid. -/
import Derived.Test.YtmipeaidieflmaaGreatPu0
import Derived.Test.YtmipeaidieflmaaGreatPuA
import Derived.Test.YtmipeaidieflmaaGreatWin
set_option linter.unusedVariables false
set_option linter.unusedSimpArgs false
set_option linter.unnecessarySimpa false
set_option linter.unusedSectionVars false
namespace Go.Win
open Go.Vc Go.Dec
theorem step_iff {α:Type} {b:Bool} {bad:Prop} {X Y:α} (h:b=true↔bad):(bad→cond b X Y=X)∧(¬bad→cond b X Y=Y):=by
 cases b with
 |true=>exact ⟨fun _=>rfl,fun hn=>absurd (h.1 rfl) hn⟩
 |false=>exact ⟨fun hb=>absurd (h.2 hb) (by decide),fun _=>rfl⟩
theorem cond_merge {α:Type} (a b:Bool) (x y:α):cond a x (cond b x y)=cond (a||b) x y:=by cases a<;>rfl
def cnt (l:List api_Bucket) (j i:Nat):Int:=(((l.take i).countP fun b=>b.Level==(j:Int)):Nat)
theorem cnt_zero (l:List api_Bucket) (j:Nat):cnt l j 0=0:=by simp [cnt]
theorem cnt_succ {l:List api_Bucket} {i:Nat} (h:i<l.length) (j:Nat):cnt l j (i+1)=cnt l j i+(if (el l i).Level=(j:Int) then 1 else 0):=by
 unfold cnt
 rw [List.take_add_one,el_get? h,Option.toList_some,List.countP_append,List.countP_singleton]
 split<;>simp_all
theorem cnt_nn (l:List api_Bucket) (j i:Nat):0≤cnt l j i:=by unfold cnt;omega
theorem cnt_le (l:List api_Bucket) (j i:Nat):cnt l j i≤i:=by
 have:(l.take i).countP (fun b=>b.Level==(j:Int))≤(l.take i).length:=List.countP_le_length
 rw [List.length_take] at this
 unfold cnt;omega
def badB (l:List api_Bucket) (i:Nat):Prop:= ¬(0≤(el l i).T∧(el l i).T≤16777216∧0≤(el l i).Level∧(el l i).Level≤30)∨(0<i∧((el l (i-1)).T>(el l i).T∨(el l (i-1)).Level<(el l i).Level))
def badL (l:List api_Bucket) (k:Int) (j:Nat):Prop:=cnt l j l.length>k+1∨((j:Int)<(el l 0).Level∧cnt l j l.length<k)
def okBk (l:List api_Bucket) (k:Int):Prop:=(1≤k∧k≤128)∧(∀i,i<l.length→ ¬badB l i)∧(0<l.length→ ∀j:Nat,(j:Int)≤(el l 0).Level→ ¬badL l k j)
theorem cnt_row (l:List api_Bucket) (i:Nat): [cnt l 0 i,cnt l 1 i,cnt l 2 i,cnt l 3 i,cnt l 4 i,cnt l 5 i,cnt l 6 i,cnt l 7 i,cnt l 8 i,cnt l 9 i,cnt l 10 i,cnt l 11 i,cnt l 12 i,cnt l 13 i,cnt l 14 i,cnt l 15 i,cnt l 16 i,cnt l 17 i,cnt l 18 i,cnt l 19 i,cnt l 20 i,cnt l 21 i,cnt l 22 i,cnt l 23 i,cnt l 24 i,cnt l 25 i,cnt l 26 i,cnt l 27 i,cnt l 28 i,cnt l 29 i,cnt l 30 i]=(List.range 31).map fun j=>cnt l j i:=rfl
theorem cnt_idx (l:List api_Bucket) (i:Nat) {L:Int} (h0:0≤L) (h1:L≤30):idx [cnt l 0 i,cnt l 1 i,cnt l 2 i,cnt l 3 i,cnt l 4 i,cnt l 5 i,cnt l 6 i,cnt l 7 i,cnt l 8 i,cnt l 9 i,cnt l 10 i,cnt l 11 i,cnt l 12 i,cnt l 13 i,cnt l 14 i,cnt l 15 i,cnt l 16 i,cnt l 17 i,cnt l 18 i,cnt l 19 i,cnt l 20 i,cnt l 21 i,cnt l 22 i,cnt l 23 i,cnt l 24 i,cnt l 25 i,cnt l 26 i,cnt l 27 i,cnt l 28 i,cnt l 29 i,cnt l 30 i] L=some (cnt l L.toNat i):=by
 rw [cnt_row]
 have:idx ((List.range 31).map fun j=>cnt l j i) ((L.toNat:Nat):Int)=some (cnt l L.toNat i):=by
  rw [idx_nat,List.getElem?_map,List.getElem?_range (by omega)]
  rfl
 rw [←this]
 congr 1
 omega
theorem cnt_step {l:List api_Bucket} {i:Nat} (h:i<l.length) (hl:l.length≤maxLen) (h0:0≤(el l i).Level) (j:Nat):
  (if (el l i).Level.toNat=j then w64 (cnt l (el l i).Level.toNat i+1) else cnt l j i)=cnt l j (i+1):=by
 rw [cnt_succ h]
 have h1:=cnt_nn l j i
 have h2:=cnt_le l j i
 rw [maxLen_eq] at hl
 by_cases e:(el l i).Level.toNat=j
 ·rw [if_pos e,e,if_pos (by omega),w64_id]<;>omega
 ·rw [if_neg e,if_neg (by omega)];omega
def stB (l:List api_Bucket) (i:Nat):Int×Int×Int×Int×Int×Int×Int×Int×Int×Int×Int×Int×Int×Int×Int×Int×Int×Int×Int×Int×Int×Int×Int×Int×Int×Int×Int×Int×Int×Int×Int×Int:=((i:Int),cnt l 0 i,cnt l 1 i,cnt l 2 i,cnt l 3 i,cnt l 4 i,cnt l 5 i,cnt l 6 i,cnt l 7 i,cnt l 8 i,cnt l 9 i,cnt l 10 i,cnt l 11 i,cnt l 12 i,cnt l 13 i,cnt l 14 i,cnt l 15 i,cnt l 16 i,cnt l 17 i,cnt l 18 i,cnt l 19 i,cnt l 20 i,cnt l 21 i,cnt l 22 i,cnt l 23 i,cnt l 24 i,cnt l 25 i,cnt l 26 i,cnt l 27 i,cnt l 28 i,cnt l 29 i,cnt l 30 i)
theorem buckets_levels (l:List api_Bucket) (k:Int) (hk:1≤k∧k≤128) (h0:0<l.length) (hL:0≤(el l 0).Level∧(el l 0).Level≤30) (i:Nat) (hi:i=l.length):
  buckets_Valid_l10 k (cnt l 0 i) (cnt l 1 i) (cnt l 2 i) (cnt l 3 i) (cnt l 4 i) (cnt l 5 i) (cnt l 6 i) (cnt l 7 i) (cnt l 8 i) (cnt l 9 i) (cnt l 10 i) (cnt l 11 i) (cnt l 12 i) (cnt l 13 i) (cnt l 14 i) (cnt l 15 i) (cnt l 16 i) (cnt l 17 i) (cnt l 18 i) (cnt l 19 i) (cnt l 20 i) (cnt l 21 i) (cnt l 22 i) (cnt l 23 i) (cnt l 24 i) (cnt l 25 i) (cnt l 26 i) (cnt l 27 i) (cnt l 28 i) (cnt l 29 i) (cnt l 30 i) (el l 0) 0=some (bOf (∀j:Nat,(j:Int)≤(el l 0).Level→ ¬badL l k j)):=by
 unfold buckets_Valid_l10
 have H:=loop_prop (f:=fun s:Int=>buckets_Valid_l10s k (cnt l 0 i) (cnt l 1 i) (cnt l 2 i) (cnt l 3 i) (cnt l 4 i) (cnt l 5 i) (cnt l 6 i) (cnt l 7 i) (cnt l 8 i) (cnt l 9 i) (cnt l 10 i) (cnt l 11 i) (cnt l 12 i) (cnt l 13 i) (cnt l 14 i) (cnt l 15 i) (cnt l 16 i) (cnt l 17 i) (cnt l 18 i) (cnt l 19 i) (cnt l 20 i) (cnt l 21 i) (cnt l 22 i) (cnt l 23 i) (cnt l 24 i) (cnt l 25 i) (cnt l 26 i) (cnt l 27 i) (cnt l 28 i) (cnt l 29 i) (cnt l 30 i) (el l 0) s) ((el l 0).Level.toNat+1) (badL l k) false (some true)
  (fun j hj _=>by
   unfold buckets_Valid_l10s
   have e1:decide ((j:Int)≤(el l 0).Level)=true:=decide_eq_true (by omega)
   have e2:w64 (k+1)=k+1:=by rw [w64_id]<;>omega
   have e3:w64 ((j:Int)+1)=((j+1:Nat):Int):=by rw [w64_id]<;>omega
   rw [e1,cond_true,cnt_idx l i (by omega) (by omega),Option.bind_some]
   simp only [Option.bind_some,e2,e3,Int.toNat_natCast]
   by_cases g1:cnt l j i>k+1
   ·simp only [g1,decide_true,Bool.not_true,Bool.false_and,gd_false,Option.bind_some,Bool.true_or,cond_true]
    exact ⟨fun _=>trivial,fun hn=>absurd (.inl (hi▸g1)) hn⟩
   ·simp only [g1,decide_false,Bool.not_false,Bool.true_and,Bool.false_or]
    by_cases g2:(j:Int)<(el l 0).Level
    ·simp only [g2,decide_true,gd_true,Option.bind_some,Bool.true_and]
     refine step_iff ?_
     unfold badL
     rw [decide_eq_true_eq,←hi]
     omega
    ·simp only [g2,decide_false,gd_false,Option.bind_some,Bool.false_and,cond_false]
     refine ⟨fun hb=> ?_,fun _=>trivial⟩
     unfold badL at hb
     rw [←hi] at hb
     omega)
  (fun _=>by
   unfold buckets_Valid_l10s
   rw [decide_eq_false (by omega),cond_false])
 by_cases hb: ∃j:Nat,j<(el l 0).Level.toNat+1∧badL l k j
 ·rw [H.1 hb,bOf_f]
  intro hn
  obtain ⟨j,h1,h2⟩:=hb
  exact hn j (by omega) h2
 ·rw [H.2 fun j h1 h2=>hb ⟨j,h1,h2⟩,bOf_t]
  intro j h1 h2
  exact hb ⟨j,by omega,h2⟩
theorem buckets_valid (l:List api_Bucket) (k:Int) (hl:l.length≤maxLen):buckets_Valid l k=some (bOf (okBk l k)):=by
 unfold buckets_Valid
 by_cases hk:1≤k∧k≤128
 ·have e:(decide (k<(1:Int))||decide (k>(128:Int)))=false:=by simp;omega
  rw [e,cond_false]
  unfold buckets_Valid_l3
  have H: ∀R,((∃i,0≤i∧i<l.length∧badB l i)→R=some false)∧((∀i,0≤i→i<l.length→ ¬badB l i)→R=(if 0<l.length then buckets_Valid_l10 k (cnt l 0 l.length) (cnt l 1 l.length) (cnt l 2 l.length) (cnt l 3 l.length) (cnt l 4 l.length) (cnt l 5 l.length) (cnt l 6 l.length) (cnt l 7 l.length) (cnt l 8 l.length) (cnt l 9 l.length) (cnt l 10 l.length) (cnt l 11 l.length) (cnt l 12 l.length) (cnt l 13 l.length) (cnt l 14 l.length) (cnt l 15 l.length) (cnt l 16 l.length) (cnt l 17 l.length) (cnt l 18 l.length) (cnt l 19 l.length) (cnt l 20 l.length) (cnt l 21 l.length) (cnt l 22 l.length) (cnt l 23 l.length) (cnt l 24 l.length) (cnt l 25 l.length) (cnt l 26 l.length) (cnt l 27 l.length) (cnt l 28 l.length) (cnt l 29 l.length) (cnt l 30 l.length) (el l 0) 0 else some true))→R=some (bOf (okBk l k)):=by
   intro R hR
   by_cases hb: ∃i,0≤i∧i<l.length∧badB l i
   ·rw [hR.1 hb,bOf_f]
    intro hn
    obtain ⟨i,_,h1,h2⟩:=hb
    exact hn.2.1 i h1 h2
   ·have hg: ∀i,0≤i→i<l.length→ ¬badB l i:=fun i h1 h2 h3=>hb ⟨i,h1,h2,h3⟩
    rw [hR.2 hg]
    by_cases h0:0<l.length
    ·have h1:=hg 0 (Nat.le_refl _) h0
     unfold badB at h1
     rw [if_pos h0,buckets_levels l k hk h0 (by omega) l.length rfl]
     congr 1
     rw [Bool.eq_iff_iff,bOf_iff,bOf_iff]
     exact ⟨fun h2=>⟨hk,fun i hi=>hg i (Nat.zero_le _) hi,fun _=>h2⟩,fun h2=>h2.2.2 h0⟩
    ·rw [if_neg h0,bOf_t]
     exact ⟨hk,fun i hi=>hg i (Nat.zero_le _) hi,fun h=>absurd h h0⟩
  apply H
  refine loop_st (stB l) 0 l.length (Nat.zero_le _) (badB l) false _ (fun i _ hi _=> ?_) (fun hg=> ?_)
  ·simp only [stB]
   unfold buckets_Valid_l3s
   rw [decide_eq_true (by omega),cond_true,el_idx hi,Option.bind_some]
   simp only []
   by_cases hr:0≤(el l i).T∧(el l i).T≤16777216∧0≤(el l i).Level∧(el l i).Level≤30
   ·have e1:(!buckets_tick (el l i).T|| !buckets_level (el l i).Level)=false:=by
     unfold buckets_tick buckets_level;simp;omega
    rw [e1,cond_false,cnt_idx l i hr.2.2.1 hr.2.2.2]
    simp only [Option.bind_some,cnt_step hi hl hr.2.2.1,succW hi hl]
    rcases i with _|i
    ·simp only [Int.lt_irrefl,gt_iff_lt,Int.natCast_zero,decide_false,gd_false,Option.bind_some,Bool.false_and,cond_false]
     refine ⟨fun hb=> ?_,fun _=>trivial⟩
     unfold badB at hb;omega
    ·have e2:decide (((i+1:Nat):Int)>0)=true:=decide_eq_true (by omega)
     rw [e2,predW (by omega) (Nat.le_of_lt hi) hl,Nat.add_sub_cancel,el_idx (by omega)]
     simp only [gd_true,Option.bind_some,Bool.true_and]
     by_cases g1:(el l i).T>(el l (i+1)).T
     ·simp only [g1,decide_true,Bool.not_true,gd_false,Option.bind_some,Bool.true_or,cond_true]
      exact ⟨fun _=>trivial,fun hn=>absurd (.inr ⟨by omega, .inl (by rw [Nat.add_sub_cancel];exact g1)⟩) hn⟩
     ·simp only [g1,decide_false,Bool.not_false,gd_true,Option.bind_some,Bool.false_or]
      refine step_iff ?_
      unfold badB
      rw [decide_eq_true_eq,Nat.add_sub_cancel]
      omega
   ·have e1:(!buckets_tick (el l i).T|| !buckets_level (el l i).Level)=true:=by
     unfold buckets_tick buckets_level
     rw [Bool.eq_iff_iff]
     simp
     omega
    rw [e1,cond_true]
    exact ⟨fun _=>rfl,fun hn=>absurd (.inl hr) hn⟩
  ·simp only [stB]
   unfold buckets_Valid_l3s
   rw [decide_eq_false (Int.lt_irrefl _),cond_false]
   congr 1
   by_cases h0:0<l.length
   ·have e1:((l.length:Int)==0)=false:=by rw [beq_eq_false_iff_ne];omega
    rw [e1,cond_false,if_pos h0,el_idx0 h0,Option.bind_some]
   ·have e1:((l.length:Int)==0)=true:=by
     have:l.length=0:=by omega
     rw [this];rfl
    rw [e1,cond_true,if_neg h0]
 ·have e:(decide (k<(1:Int))||decide (k>(128:Int)))=true:=by
   rw [Bool.eq_iff_iff];simp;omega
  rw [e,cond_true,bOf_f]
  exact fun h=>hk h.1
def cnts (l:List api_Bucket) (i:Nat):List Int:=(List.range 31).map fun j=>cnt l j i
theorem cnts_idx (l:List api_Bucket) (i:Nat) {L:Int} (h0:0≤L) (h1:L≤30):idx (cnts l i) L=some (cnt l L.toNat i):=cnt_idx l i h0 h1
theorem cnts_len (l:List api_Bucket) (i:Nat):(cnts l i).length=31:=by simp [cnts]
theorem cnts_step {l:List api_Bucket} {i:Nat} (h:i<l.length) (hl:l.length≤maxLen) (h0:0≤(el l i).Level) (h1:(el l i).Level≤30):
  (cnts l i).set (el l i).Level.toNat (w64 (cnt l (el l i).Level.toNat i+1))=cnts l (i+1):=by
 apply List.ext_getElem?
 intro j
 rw [List.getElem?_set,cnts_len]
 unfold cnts
 by_cases hj:j<31
 ·rw [List.getElem?_map,List.getElem?_map,List.getElem?_range hj]
  have:=cnt_step h hl h0 j
  simp only [Option.map_some]
  rw [←this]
  split<;>simp_all
 ·have:(el l i).Level.toNat≠j:=by omega
  rw [if_neg this,List.getElem?_eq_none (by simp;omega),List.getElem?_eq_none (by simp;omega)]
theorem ref_levels (l:List api_Bucket) (k:Int) (hk:1≤k∧k≤128) (hg: ∀i,i<l.length→ ¬badB l i):
  ref10_Valid_l8 l k (cnts l l.length) 0=some (bOf (0<l.length→ ∀j:Nat,(j:Int)≤(el l 0).Level→ ¬badL l k j)):=by
 unfold ref10_Valid_l8
 have hup: ∀i,i<l.length→(el l i).Level≤(el l 0).Level:=by
  intro i
  induction i with
  |zero=>intro _;exact Int.le_refl _
  |succ i ih=>
   intro hi
   have h1:=hg (i+1) hi
   unfold badB at h1
   rw [Nat.add_sub_cancel] at h1
   have:=ih (by omega)
   omega
 have hz:0<l.length→ ∀j:Nat,(el l 0).Level<(j:Int)→cnt l j l.length=0:=by
  intro _ j hj
  have: ∀i,i≤l.length→cnt l j i=0:=by
   intro i
   induction i with
   |zero=>intro _;exact cnt_zero l j
   |succ i ih=>
    intro hi
    rw [cnt_succ (by omega),ih (by omega),if_neg]
    ·rfl
    ·have:=hup i (by omega);omega
  exact this _ (Nat.le_refl _)
 have H:=loop_prop (f:=fun s:Int=>ref10_Valid_l8s l k (cnts l l.length) s) 31 (fun j=>0<l.length∧badL l k j) false (some true)
  (fun j hj _=>by
   unfold ref10_Valid_l8s
   have e2:w64 (k+1)=k+1:=by rw [w64_id]<;>omega
   have e3:w64 ((j:Int)+1)=((j+1:Nat):Int):=by rw [w64_id]<;>omega
   have e4:((cnts l l.length).length:Int)=31:=by rw [cnts_len];rfl
   rw [e4,decide_eq_true (by omega),cond_true,cnts_idx l _ (by omega) (by omega),Option.bind_some]
   simp only [e2,e3,Int.toNat_natCast]
   by_cases h0:0<l.length
   ·rw [decide_eq_true (by omega:(l.length:Int)>0),el_idx0 h0]
    simp only [gd_true,Option.bind_some,Bool.true_and]
    refine step_iff ?_
    unfold badL
    simp only [Bool.or_eq_true,Bool.and_eq_true,decide_eq_true_eq]
    omega
   ·rw [decide_eq_false (by omega: ¬(l.length:Int)>0)]
    simp only [gd_false,Option.bind_some,Bool.false_and,cond_false]
    exact ⟨fun hb=>absurd hb.1 h0,fun _=>trivial⟩)
  (fun _=>by
   unfold ref10_Valid_l8s
   have e4:((cnts l l.length).length:Int)=31:=by rw [cnts_len];rfl
   rw [e4,decide_eq_false (by omega),cond_false])
 by_cases hb: ∃j:Nat,j<31∧(0<l.length∧badL l k j)
 ·rw [H.1 hb,bOf_f]
  intro hn
  obtain ⟨j,h1,h2,h3⟩:=hb
  by_cases h4:(j:Int)≤(el l 0).Level
  ·exact hn h2 j h4 h3
  ·have:=hz h2 j (by omega)
   unfold badL at h3
   omega
 ·rw [H.2 fun j h1 h2=>hb ⟨j,h1,h2⟩,bOf_t]
  intro h0 j h1 h2
  have:=hg 0 h0
  unfold badB at this
  exact hb ⟨j,by omega,h0,h2⟩
theorem ref10_valid (l:List api_Bucket) (k:Int) (hl:l.length≤maxLen):ref10_Valid l k=some (bOf (okBk l k)):=by
 unfold ref10_Valid
 by_cases hk:1≤k∧k≤128
 ·have e:ref10_MayK k=true:=by unfold ref10_MayK;simp;omega
  simp only [e,Bool.not_true,cond_false]
  have e2:(decide (0≤(31:Int)∧(31:Int)≤(31:Int)∧(31:Int)*8≤140737488355328∧(31:Int)≤140737488355328))=true:=by decide
  rw [e2,ck_true]
  unfold ref10_Valid_l3
  have H: ∀R,((∃i,0≤i∧i<l.length∧badB l i)→R=some false)∧((∀i,0≤i→i<l.length→ ¬badB l i)→R=ref10_Valid_l8 l k (cnts l l.length) 0)→R=some (bOf (okBk l k)):=by
   intro R hR
   by_cases hb: ∃i,0≤i∧i<l.length∧badB l i
   ·rw [hR.1 hb,bOf_f]
    intro hn
    obtain ⟨i,_,h1,h2⟩:=hb
    exact hn.2.1 i h1 h2
   ·have hg: ∀i,0≤i→i<l.length→ ¬badB l i:=fun i h1 h2 h3=>hb ⟨i,h1,h2,h3⟩
    rw [hR.2 hg,ref_levels l k hk fun i hi=>hg i (Nat.zero_le _) hi]
    congr 1
    rw [Bool.eq_iff_iff,bOf_iff,bOf_iff]
    exact ⟨fun h2=>⟨hk,fun i hi=>hg i (Nat.zero_le _) hi,h2⟩,fun h2=>h2.2.2⟩
  apply H
  have e0:(List.replicate ((31:Int)).toNat (0:Int),(0:Int))=(fun i:Nat=>(cnts l i,(i:Int))) 0:=by
   have:List.replicate ((31:Int)).toNat (0:Int)=cnts l 0:=by
    unfold cnts
    simp only [cnt_zero]
    rfl
   rw [this];rfl
  rw [e0]
  refine loop_st (fun i:Nat=>(cnts l i,(i:Int))) 0 l.length (Nat.zero_le _) (badB l) false _ (fun i _ hi _=> ?_) (fun hg=> ?_)
  ·simp only []
   unfold ref10_Valid_l3s
   rw [decide_eq_true (by omega),cond_true,el_idx hi,Option.bind_some]
   simp only []
   by_cases hr:0≤(el l i).T∧(el l i).T≤16777216∧0≤(el l i).Level∧(el l i).Level≤30
   ·have e1:((!ref06_Tick (el l i).T||decide ((el l i).Level<0))||decide ((el l i).Level>30))=false:=by
     unfold ref06_Tick;simp;omega
    rw [e1,cnts_idx l i hr.2.2.1 hr.2.2.2]
    simp only [Option.bind_some,cnts_step hi hl hr.2.2.1 hr.2.2.2,succW hi hl,Bool.not_false,Bool.true_and,Bool.false_or]
    rcases i with _|i
    ·simp only [Int.lt_irrefl,gt_iff_lt,Int.natCast_zero,decide_false,gd_false,Option.bind_some,Bool.false_and,cond_false]
     refine ⟨fun hb=> ?_,fun _=>trivial⟩
     unfold badB at hb;omega
    ·have e2:decide (((i+1:Nat):Int)>0)=true:=decide_eq_true (by omega)
     rw [e2,predW (by omega) (Nat.le_of_lt hi) hl,Nat.add_sub_cancel,el_idx (by omega)]
     simp only [gd_true,Option.bind_some,Bool.true_and]
     by_cases g1:(el l i).T>(el l (i+1)).T
     ·simp only [g1,decide_true,Bool.not_true,gd_false,Option.bind_some,Bool.true_or,cond_true]
      exact ⟨fun _=>trivial,fun hn=>absurd (.inr ⟨by omega, .inl (by rw [Nat.add_sub_cancel];exact g1)⟩) hn⟩
     ·simp only [g1,decide_false,Bool.not_false,gd_true,Option.bind_some,Bool.false_or]
      refine step_iff ?_
      unfold badB
      rw [decide_eq_true_eq,Nat.add_sub_cancel]
      omega
   ·have e1:((!ref06_Tick (el l i).T||decide ((el l i).Level<0))||decide ((el l i).Level>30))=true:=by
     unfold ref06_Tick
     rw [Bool.eq_iff_iff]
     simp
     omega
    rw [e1]
    simp only [Bool.not_true,Bool.false_and,gd_false,Option.bind_some,Bool.true_or,cond_true]
    exact ⟨fun _=>trivial,fun hn=>absurd (.inl hr) hn⟩
  ·simp only []
   unfold ref10_Valid_l3s
   rw [decide_eq_false (by omega),cond_false]
 ·have e:ref10_MayK k=false:=by unfold ref10_MayK;simp;omega
  simp only [e,Bool.not_false,cond_true]
  rw [bOf_f]
  exact fun h=>hk h.1
end Go.Win
