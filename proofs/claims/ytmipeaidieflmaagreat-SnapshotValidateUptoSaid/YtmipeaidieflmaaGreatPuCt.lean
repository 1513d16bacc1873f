/- Pu: chapters 11, 12: which histograms are valid. -/
import Derived.Test.YtmipeaidieflmaaGreatPuBk
import Derived.Test.YtmipeaidieflmaaGreatPu09
set_option linter.unusedVariables false
set_option linter.unusedSimpArgs false
set_option linter.unnecessarySimpa false
set_option linter.unusedSectionVars false
namespace Go.Win
open Go.Vc Go.Dec
theorem w64_add (a b:Int):w64 (w64 a+b)=w64 (a+b):=by
 rw [w64_eq,w64_eq,w64_eq];omega
theorem tick_iffP (t:Int):ref06_Tick t=true↔0≤t∧t≤16777216:=by unfold ref06_Tick;simp
theorem may_iff (w c n:Int):ref09_May w c n=true↔(1≤w∧w≤1048576)∧(1≤c∧c≤65536)∧(0≤n∧n≤16777216):=by
 unfold ref09_May ref06_Window ref06_Tick;simp;omega
theorem mayK_iff (k:Int):ref11_MayK k=true↔1≤k∧k≤64:=by unfold ref11_MayK;simp
theorem value_iff (v:Int):ref09_Value v=true↔ -4096≤v∧v≤4096:=by unfold ref09_Value;simp
theorem ishl_fin: ∀n:Fin 31,ishl .i64 1 (wu64 (n.1:Int))=2^n.1:=by decide+kernel
theorem ishl1 {L:Int} (h0:0≤L) (h1:L≤30):ishl .i64 1 (wu64 L)=2^L.toNat:=by
 have:=ishl_fin ⟨L.toNat,by omega⟩
 simp only [] at this
 rw [←this]
 congr 2
 omega
def sizeB (b:api_Bucket):Int:=if 0≤b.Level∧b.Level≤30 then 2^b.Level.toNat else 0
def totS (l:List api_Bucket):Int:=(l.map sizeB).sum
theorem totS_nil:totS []=0:=rfl
theorem totS_cons (b:api_Bucket) (l:List api_Bucket):totS (b::l)=sizeB b+totS l:=by simp [totS]
theorem totS_append (a b:List api_Bucket):totS (a++b)=totS a+totS b:=by simp [totS]
theorem totS_take {l:List api_Bucket} {i:Nat} (h:i<l.length):totS (l.take (i+1))=totS (l.take i)+sizeB (el l i):=by
 rw [List.take_add_one,el_get? h,Option.toList_some,totS_append,totS_cons,totS_nil];omega
theorem ref10_total (l:List api_Bucket) (hl:l.length≤maxLen):ref10_Total l=some (w64 (totS l)):=by
 unfold ref10_Total ref10_Total_l2
 have H:=loop_st (f:=fun s:Int×Int=>ref10_Total_l2s l s.1 s.2) (fun i=>(w64 (totS (l.take i)),(i:Int))) 0 l.length (Nat.zero_le _) (fun _=>False) 0 (some (w64 (totS l)))
  (fun i _ hi _=>by
   refine ⟨fun h=>h.elim,fun _=> ?_⟩
   simp only []
   unfold ref10_Total_l2s
   rw [decide_eq_true (by omega:(i:Int)<(l.length:Int)),cond_true,el_idx hi,Option.bind_some,succW hi hl,totS_take hi]
   unfold sizeB
   by_cases h:0≤(el l i).Level∧(el l i).Level≤30
   ·rw [decide_eq_true h.1,decide_eq_true h.2,if_pos h,ishl1 h.1 h.2,w64_add]
    have:decide (0≤wu64 (el l i).Level)=true:=decide_eq_true (by rw [wu64_eq];omega)
    rw [this];rfl
   ·have e:(decide ((el l i).Level≥0)&&decide ((el l i).Level≤30))=false:=by
     rw [Bool.eq_false_iff];simpa using h
    rw [e,if_neg h,cond_false,Int.add_zero])
  (fun _=>by
   simp only []
   unfold ref10_Total_l2s
   rw [decide_eq_false (Int.lt_irrefl _),cond_false,List.take_length])
 exact H.2 (fun _ _ _ h=>h)
theorem total10_eq:buckets_Total=ref10_Total:=rfl
def okHist (l:List api_Bucket) (W K Cap Now:Int):Prop:=
 ((1≤W∧W≤1048576)∧(1≤Cap∧Cap≤65536)∧(0≤Now∧Now≤16777216)∧(1≤K∧K≤64))∧okBk l K∧w64 (totS l)≤Cap∧ ∀i,i<l.length→ref06_Live Now W (el l i).T=true
theorem ref11_fits (l:List api_Bucket) (W K Cap Now:Int) (hl:l.length≤maxLen):ref11_Fits l W K Cap Now=some (bOf (okHist l W K Cap Now)):=by
 unfold ref11_Fits
 simp only []
 by_cases h1:(1≤W∧W≤1048576)∧(1≤Cap∧Cap≤65536)∧(0≤Now∧Now≤16777216)∧(1≤K∧K≤64)
 ·have e1:ref09_May W Cap Now=true:=(may_iff _ _ _).2 ⟨h1.1,h1.2.1,h1.2.2.1⟩
  have e2:ref11_MayK K=true:=(mayK_iff _).2 h1.2.2.2
  rw [e1,e2,ref10_valid l K hl,ref10_total l hl]
  simp only [Bool.not_true,Bool.or_false,Bool.not_false,gd_true,Option.bind_some,Bool.false_or]
  by_cases h2:okBk l K
  ·rw [bOf_t h2]
   simp only [Bool.not_true,Bool.not_false,gd_true,Option.bind_some,Bool.false_or]
   by_cases h3:w64 (totS l)≤Cap
   ·rw [decide_eq_false (by omega),cond_false]
    unfold ref11_Fits_l3
    have H:=loop_prop (f:=fun s:Int=>ref11_Fits_l3s l W Now s) l.length (fun i=> ¬ref06_Live Now W (el l i).T=true) false (some true)
     (fun i hi _=>by
      unfold ref11_Fits_l3s
      rw [decide_eq_true (by omega:(i:Int)<(l.length:Int)),cond_true,el_idx hi,Option.bind_some,succW hi hl]
      refine step_iff ?_
      simp)
     (fun _=>by
      unfold ref11_Fits_l3s
      rw [decide_eq_false (Int.lt_irrefl _),cond_false])
    by_cases h4: ∀i,i<l.length→ref06_Live Now W (el l i).T=true
    ·rw [H.2 fun i hi hn=>hn (h4 i hi),bOf_t]
     exact ⟨h1,h2,h3,h4⟩
    ·rw [H.1,bOf_f]
     ·exact fun h=>h4 h.2.2.2
     ·exact Classical.byContradiction fun hn=>h4 fun i hi=>Classical.byContradiction fun hc=>hn ⟨i,hi,hc⟩
   ·rw [decide_eq_true (by omega),cond_true,bOf_f]
    exact fun h=>h3 h.2.2.1
  ·rw [bOf_f h2]
   simp only [Bool.not_true,Bool.not_false,gd_false,Option.bind_some,Bool.true_or,cond_true]
   rw [bOf_f]
   exact fun h=>h2 h.2.1
 ·have e:(!ref09_May W Cap Now|| !ref11_MayK K)=true:=by
   rw [Bool.or_eq_true,Bool.not_eq_true',Bool.not_eq_true',Bool.eq_false_iff,Bool.eq_false_iff,Ne,Ne,may_iff,mayK_iff]
   omega
  rw [e]
  simp only [Bool.not_true,gd_false,Option.bind_some,Bool.true_or,cond_true]
  rw [bOf_f]
  exact fun h=>h1 h.1
theorem ref11_validate (x:api_Count) (hl:x.Buckets.length≤maxLen):ref11_Validate x=some (vOf (okHist x.Buckets x.W x.K x.Cap x.Now)):=by
 unfold ref11_Validate
 rw [ref11_fits _ _ _ _ _ hl,Option.bind_some]
 by_cases h:okHist x.Buckets x.W x.K x.Cap x.Now
 ·rw [bOf_t h,vOf_t h];rfl
 ·rw [bOf_f h,vOf_f h];rfl
theorem count_good_iff (w k c n:Int):count_good w k c n=true↔(1≤w∧w≤1048576)∧(1≤c∧c≤65536)∧(0≤n∧n≤16777216)∧(1≤k∧k≤64):=by
 unfold count_good;simp;omega
theorem count_validate (x:api_Count) (hl:x.Buckets.length≤maxLen):count_Validate x=some (vOf (okHist x.Buckets x.W x.K x.Cap x.Now)):=by
 unfold count_Validate
 simp only []
 by_cases h1:count_good x.W x.K x.Cap x.Now=true
 ·have h1' :=(count_good_iff _ _ _ _).1 h1
  rw [h1,buckets_valid _ _ hl,total10_eq,ref10_total _ hl]
  simp only [Bool.not_true,Bool.not_false,gd_true,Option.bind_some,Bool.false_or]
  by_cases h2:okBk x.Buckets x.K
  ·rw [bOf_t h2]
   simp only [Bool.not_true,Bool.not_false,gd_true,Option.bind_some,Bool.false_or]
   by_cases h3:w64 (totS x.Buckets)≤x.Cap
   ·rw [decide_eq_false (by omega),cond_false]
    unfold count_Validate_l3
    have H:=loop_prop (f:=fun s:Int=>count_Validate_l3s x s) x.Buckets.length (fun i=> ¬ref06_Live x.Now x.W (el x.Buckets i).T=true) 2 (some 0)
     (fun i hi _=>by
      unfold count_Validate_l3s
      rw [decide_eq_true (by omega:(i:Int)<(x.Buckets.length:Int)),cond_true,el_idx hi,Option.bind_some,succW hi hl]
      refine step_iff ?_
      simp [live_eq])
     (fun _=>by
      unfold count_Validate_l3s
      rw [decide_eq_false (Int.lt_irrefl _),cond_false])
    by_cases h4: ∀i,i<x.Buckets.length→ref06_Live x.Now x.W (el x.Buckets i).T=true
    ·rw [H.2 fun i hi hn=>hn (h4 i hi),vOf_t]
     exact ⟨h1',h2,h3,h4⟩
    ·rw [H.1,vOf_f]
     ·exact fun h=>h4 h.2.2.2
     ·exact Classical.byContradiction fun hn=>h4 fun i hi=>Classical.byContradiction fun hc=>hn ⟨i,hi,hc⟩
   ·rw [decide_eq_true (by omega),cond_true,vOf_f]
    exact fun h=>h3 h.2.2.1
  ·rw [bOf_f h2]
   simp only [Bool.not_true,Bool.not_false,gd_false,Option.bind_some,Bool.true_or,cond_true]
   rw [vOf_f]
   exact fun h=>h2 h.2.1
 ·have h1' :=fun h=>h1 ((count_good_iff _ _ _ _).2 h)
  rw [Bool.not_eq_true] at h1
  rw [h1]
  simp only [Bool.not_true,Bool.not_false,gd_false,Option.bind_some,Bool.true_or,cond_true]
  rw [vOf_f]
  exact fun h=>h1' h.1
theorem sum_good_iff (w k c m n:Int):sum_good w k c m n=true↔((1≤w∧w≤1048576)∧(1≤c∧c≤65536)∧(0≤n∧n≤16777216)∧(1≤k∧k≤64))∧(1≤m∧m≤1024):=by
 unfold sum_good;simp;omega
def okSum (x:api_Sum):Prop:=okHist x.Buckets x.W x.K x.Cap x.Now∧(1≤x.Max∧x.Max≤1024)
theorem ref12_validate (x:api_Sum) (hl:x.Buckets.length≤maxLen):ref12_Validate x=some (vOf (okSum x)):=by
 unfold ref12_Validate
 rw [ref11_fits _ _ _ _ _ hl,Option.bind_some]
 simp only []
 have e:ref12_MayMax x.Max=bOf (1≤x.Max∧x.Max≤1024):=by
  rw [Bool.eq_iff_iff,bOf_iff];unfold ref12_MayMax;simp
 rw [e]
 by_cases h:okHist x.Buckets x.W x.K x.Cap x.Now
 ·rw [bOf_t h]
  by_cases h2:1≤x.Max∧x.Max≤1024
  ·rw [bOf_t h2,vOf_t ⟨h,h2⟩];rfl
  ·rw [bOf_f h2,vOf_f fun h3=>h2 h3.2];rfl
 ·rw [bOf_f h,vOf_f fun h3=>h h3.1];rfl
theorem sum_validate (x:api_Sum) (hl:x.Buckets.length≤maxLen):sum_Validate x=some (vOf (okSum x)):=by
 unfold sum_Validate
 simp only []
 by_cases h1:sum_good x.W x.K x.Cap x.Max x.Now=true
 ·have h1' :=(sum_good_iff _ _ _ _ _).1 h1
  rw [h1,buckets_valid _ _ hl,total10_eq,ref10_total _ hl]
  simp only [Bool.not_true,Bool.not_false,gd_true,Option.bind_some,Bool.false_or]
  by_cases h2:okBk x.Buckets x.K
  ·rw [bOf_t h2]
   simp only [Bool.not_true,Bool.not_false,gd_true,Option.bind_some,Bool.false_or]
   by_cases h3:w64 (totS x.Buckets)≤x.Cap
   ·rw [decide_eq_false (by omega),cond_false]
    unfold sum_Validate_l3
    have H:=loop_prop (f:=fun s:Int=>sum_Validate_l3s x s) x.Buckets.length (fun i=> ¬ref06_Live x.Now x.W (el x.Buckets i).T=true) 2 (some 0)
     (fun i hi _=>by
      unfold sum_Validate_l3s
      rw [decide_eq_true (by omega:(i:Int)<(x.Buckets.length:Int)),cond_true,el_idx hi,Option.bind_some,succW hi hl]
      refine step_iff ?_
      simp [live_eq])
     (fun _=>by
      unfold sum_Validate_l3s
      rw [decide_eq_false (Int.lt_irrefl _),cond_false])
    by_cases h4: ∀i,i<x.Buckets.length→ref06_Live x.Now x.W (el x.Buckets i).T=true
    ·rw [H.2 fun i hi hn=>hn (h4 i hi),vOf_t]
     exact ⟨⟨h1'.1,h2,h3,h4⟩,h1'.2⟩
    ·rw [H.1,vOf_f]
     ·exact fun h=>h4 h.1.2.2.2
     ·exact Classical.byContradiction fun hn=>h4 fun i hi=>Classical.byContradiction fun hc=>hn ⟨i,hi,hc⟩
   ·rw [decide_eq_true (by omega),cond_true,vOf_f]
    exact fun h=>h3 h.1.2.2.1
  ·rw [bOf_f h2]
   simp only [Bool.not_true,Bool.not_false,gd_false,Option.bind_some,Bool.true_or,cond_true]
   rw [vOf_f]
   exact fun h=>h2 h.1.2.1
 ·have h1' :=fun h=>h1 ((sum_good_iff _ _ _ _ _).2 h)
  rw [Bool.not_eq_true] at h1
  rw [h1]
  simp only [Bool.not_true,Bool.not_false,gd_false,Option.bind_some,Bool.true_or,cond_true]
  rw [vOf_f]
  exact fun h=>h1' ⟨h.1.1,h.2⟩
theorem bk_refl (l:List api_Bucket) (hl:l.length≤maxLen):ref10_Same l l=some true:=by
 unfold ref10_Same
 rw [bne_self_eq_false,cond_false]
 unfold ref10_Same_l3
 refine (loop_prop (f:=fun s:Int=>ref10_Same_l3s l l s) l.length (fun _=>False) false (some true) (fun i hi _=>⟨fun h=>h.elim,fun _=> ?_⟩) (fun _=> ?_)).2 fun _ _ h=>h
 ·unfold ref10_Same_l3s
  rw [decide_eq_true (by omega:(i:Int)<(l.length:Int)),cond_true,el_idx hi]
  simp [succW hi hl]
 ·unfold ref10_Same_l3s
  rw [decide_eq_false (Int.lt_irrefl _),cond_false]
theorem same11_refl (x:api_Count) (hl:x.Buckets.length≤maxLen):ref11_Same x x=some true:=by
 unfold ref11_Same;simp [bk_refl _ hl]
theorem same12_refl (x:api_Sum) (hl:x.Buckets.length≤maxLen):ref12_Same x x=some true:=by
 unfold ref12_Same;simp [bk_refl _ hl]
end Go.Win
