/- Pu: chapter 20: which summaries of a stream are valid. -/
import Derived.Test.YtmipeaidieflmaaGreatPuCf
set_option linter.unusedVariables false
set_option linter.unusedSimpArgs false
set_option linter.unnecessarySimpa false
set_option linter.unusedSectionVars false
namespace Go.Win
open Go.Vc Go.Dec
def mostS (n k:Int):Int:=max 1 (n/k)
theorem tdiv_pos {n k:Int} (hn:0≤n) (hk:1≤k):Int.tdiv n k=n/k∧0≤n/k∧n/k≤n:=by
 refine ⟨Int.tdiv_eq_ediv_of_nonneg hn,Int.ediv_nonneg hn (by omega), ?_⟩
 exact Int.ediv_le_self k hn
theorem most_eq {n k:Int} (hn:0≤n∧n≤1099511627776) (hk:1≤k):summary_most n k=some (mostS n k):=by
 obtain ⟨h1,h2,h3⟩:=tdiv_pos hn.1 hk
 unfold summary_most mostS
 rw [decide_eq_true (by omega),ck_true,h1,w64_id (by omega) (by omega)]
 congr 1
 show (if n/k>1 then n/k else 1)=max 1 (n/k)
 split<;>omega
theorem m20_eq {x:api_Summary} (hn:0≤x.N∧x.N≤1099511627776) (hk:1≤x.K):ref20_M x=some (mostS x.N x.K):=most_eq hn hk
theorem mostS_rng {n k:Int} (hn:0≤n∧n≤1099511627776) (hk:1≤k):1≤mostS n k∧mostS n k≤1099511627776∧(1≤n→mostS n k≤n):=by
 obtain ⟨h1,h2,h3⟩:=tdiv_pos hn.1 hk
 unfold mostS
 omega
def sumG (l:List api_Tuple) (i:Nat):Int:=((l.take i).map (·.G)).sum
theorem sumG_zero (l:List api_Tuple):sumG l 0=0:=by simp [sumG]
theorem sumG_succ {l:List api_Tuple} {i:Nat} (h:i<l.length):sumG l (i+1)=sumG l i+(el l i).G:=by
 unfold sumG
 rw [List.take_add_one,el_get? h]
 simp
def okTu (l:List api_Tuple) (M:Int) (i:Nat):Prop:=(-4096≤(el l i).V∧(el l i).V≤4096)∧(1≤(el l i).G∧0≤(el l i).D∧(el l i).G+(el l i).D≤M)∧(1≤i→(el l (i-1)).V≤(el l i).V)
def headSu (x:api_Summary):Prop:=(1≤x.K∧x.K≤64)∧(2≤x.Cap∧x.Cap≤65536)∧(0≤x.N∧x.N≤1099511627776)∧(x.Tuples.length:Int)≤x.Cap
def okSu (x:api_Summary):Prop:=headSu x∧(x.Tuples.length=0↔x.N=0)∧(∀i,i<x.Tuples.length→okTu x.Tuples (mostS x.N x.K) i)∧
 (0<x.Tuples.length→(el x.Tuples 0).G=1∧(el x.Tuples 0).D=0∧(el x.Tuples (x.Tuples.length-1)).D=0∧sumG x.Tuples x.Tuples.length=x.N)
theorem sumG_rng {l:List api_Tuple} {M:Int} (hM:M≤1099511627776) (hl:l.length≤65536): ∀i,i≤l.length→(∀j,j<i→okTu l M j)→(i:Int)≤sumG l i∧sumG l i≤i*1099511627776:=by
 intro i
 induction i with
 |zero=>intro _ _;rw [sumG_zero];omega
 |succ i ih=>
  intro hi h
  have h1:=ih (by omega) fun j hj=>h j (by omega)
  have h2:=(h i (by omega)).2.1
  rw [sumG_succ (by omega)]
  omega
theorem summary_validate (x:api_Summary):summary_Validate x=some (vOf (okSu x)):=by
 unfold summary_Validate
 by_cases h1:headSu x
 ·have h1' :=h1
  unfold headSu at h1'
  have e:(((((((decide (x.K<(1:Int)))||(decide (x.K>(64:Int))))||(decide (x.Cap<(2:Int))))||(decide (x.Cap>(65536:Int))))||(decide (x.N<(0:Int))))||(decide (x.N>(1099511627776:Int))))||(decide ((x.Tuples.length:Int)>x.Cap)))=false:=by
   rw [Bool.eq_false_iff];simp only [Bool.or_eq_true,decide_eq_true_eq,Ne];omega
  rw [e,cond_false]
  have hl:x.Tuples.length≤65536:=by omega
  have hm:x.Tuples.length≤maxLen:=by rw [maxLen_eq];omega
  by_cases hN:x.N=0
  ·have eN:(x.N==0)=true:=by rw [hN];rfl
   rw [eN,cond_true]
   by_cases h0:0<x.Tuples.length
   ·rw [decide_eq_true (by omega),cond_true,vOf_f]
    intro h
    have:=h.2.1
    omega
   ·rw [decide_eq_false (by omega),cond_false,vOf_t]
    exact ⟨h1,⟨fun _=>hN,fun _=>by omega⟩,fun i hi=>absurd hi (by omega),fun h=>absurd h h0⟩
  ·have eN:(x.N==0)=false:=by rw [beq_eq_false_iff_ne];exact hN
   rw [eN,cond_false]
   by_cases h0:0<x.Tuples.length
   ·have e0:((x.Tuples.length:Int)==0)=false:=by rw [beq_eq_false_iff_ne];omega
    rw [e0,cond_false,most_eq h1'.2.2.1 h1'.1.1,Option.bind_some]
    have hM:=mostS_rng (n:=x.N) (k:=x.K) h1'.2.2.1 h1'.1.1
    unfold summary_Validate_l6
    have H:=loop_st (f:=fun s:Int×Int=>summary_Validate_l6s x (mostS x.N x.K) s.1 s.2) (fun i=>(sumG x.Tuples i,(i:Int))) 0 x.Tuples.length (Nat.zero_le _) (fun i=> ¬okTu x.Tuples (mostS x.N x.K) i) 2
     (some (vOf ((el x.Tuples 0).G=1∧(el x.Tuples 0).D=0∧(el x.Tuples (x.Tuples.length-1)).D=0∧sumG x.Tuples x.Tuples.length=x.N)))
     (fun i _ hi hp=>by
      simp only []
      unfold summary_Validate_l6s
      have hs:=sumG_rng (l:=x.Tuples) hM.2.1 hl i (by omega) fun j hj=>Classical.byContradiction fun hn=>hp j (Nat.zero_le _) hj hn
      rw [decide_eq_true (by omega:(i:Int)<(x.Tuples.length:Int)),cond_true,el_idx hi,Option.bind_some,succW hi hm]
      unfold okTu
      by_cases g1: -4096≤(el x.Tuples i).V∧(el x.Tuples i).V≤4096
      ·have e1:(decide ((el x.Tuples i).V< -4096)||decide ((el x.Tuples i).V>4096))=false:=by simp;omega
       rw [e1]
       have key: ∀P:Prop,((((decide ((el x.Tuples i).G<(1:Int)))||(decide ((el x.Tuples i).D<(0:Int))))||(decide ((el x.Tuples i).G>(mostS x.N x.K))))||(decide ((el x.Tuples i).D>(w64 ((mostS x.N x.K)-(el x.Tuples i).G)))))=true↔ ¬(1≤(el x.Tuples i).G∧0≤(el x.Tuples i).D∧(el x.Tuples i).G+(el x.Tuples i).D≤mostS x.N x.K):=by
        intro _
        simp only [Bool.or_eq_true,decide_eq_true_eq]
        by_cases q:1≤(el x.Tuples i).G∧(el x.Tuples i).G≤mostS x.N x.K
        ·rw [w64_id (by omega) (by omega)];omega
        ·omega
       have keyw:(1≤(el x.Tuples i).G∧0≤(el x.Tuples i).D∧(el x.Tuples i).G+(el x.Tuples i).D≤mostS x.N x.K)→w64 (sumG x.Tuples i+(el x.Tuples i).G)=sumG x.Tuples (i+1):=by
        intro q
        rw [sumG_succ hi,w64_id]<;>omega
       have fin: ∀(c1:Bool) (P1:Prop),(c1=true↔ ¬P1)→
         (¬((-4096≤(el x.Tuples i).V∧(el x.Tuples i).V≤4096)∧(1≤(el x.Tuples i).G∧0≤(el x.Tuples i).D∧(el x.Tuples i).G+(el x.Tuples i).D≤mostS x.N x.K)∧P1)→
          (cond c1 (some (.inr 2)) (cond ((((decide ((el x.Tuples i).G<(1:Int)))||(decide ((el x.Tuples i).D<(0:Int))))||(decide ((el x.Tuples i).G>(mostS x.N x.K))))||(decide ((el x.Tuples i).D>(w64 ((mostS x.N x.K)-(el x.Tuples i).G))))) (some (.inr 2)) (some (.inl (w64 (sumG x.Tuples i+(el x.Tuples i).G),((i+1:Nat):Int))))):Option ((Int×Int)⊕Int))=some (.inr 2))∧
         (¬ ¬((-4096≤(el x.Tuples i).V∧(el x.Tuples i).V≤4096)∧(1≤(el x.Tuples i).G∧0≤(el x.Tuples i).D∧(el x.Tuples i).G+(el x.Tuples i).D≤mostS x.N x.K)∧P1)→
          (cond c1 (some (.inr 2)) (cond ((((decide ((el x.Tuples i).G<(1:Int)))||(decide ((el x.Tuples i).D<(0:Int))))||(decide ((el x.Tuples i).G>(mostS x.N x.K))))||(decide ((el x.Tuples i).D>(w64 ((mostS x.N x.K)-(el x.Tuples i).G))))) (some (.inr 2)) (some (.inl (w64 (sumG x.Tuples i+(el x.Tuples i).G),((i+1:Nat):Int))))):Option ((Int×Int)⊕Int))=some (.inl (sumG x.Tuples (i+1),((i+1:Nat):Int)))):=by
        intro c1 P1 hc
        by_cases q:1≤(el x.Tuples i).G∧0≤(el x.Tuples i).D∧(el x.Tuples i).G+(el x.Tuples i).D≤mostS x.N x.K
        ·rw [Bool.eq_false_iff.2 fun h=>(key True).1 h q,cond_false,keyw q]
         refine step_iff ?_
         rw [hc]
         exact ⟨fun h1 h2=>h1 h2.2.2,fun h1 h2=>h1 ⟨g1,q,h2⟩⟩
        ·rw [(key True).2 q,cond_true]
         have:(cond c1 (some (.inr 2)) (some (.inr 2)):Option ((Int×Int)⊕Int))=some (.inr 2):=by cases c1<;>rfl
         rw [this]
         exact ⟨fun _=>rfl,fun h=>absurd (fun h2=>q h2.2.1) h⟩
       rcases i with _|i
       ·have e4:decide (((0:Nat):Int)>0)=false:=rfl
        rw [e4]
        simp only [Bool.and_false,gd_false,Option.bind_some,Bool.false_and,Bool.or_false]
        exact fin false _ ⟨fun h=>(by cases h),fun h=>absurd (fun h2=>absurd h2 (by decide)) h⟩
       ·have e4:decide (((i+1:Nat):Int)>0)=true:=decide_eq_true (by omega)
        rw [e4,predW (by omega) (Nat.le_of_lt hi) hm,Nat.add_sub_cancel,el_idx (by omega)]
        simp only [Bool.not_false,Bool.and_true,gd_true,Option.bind_some,Bool.true_and,Bool.false_or]
        refine fin _ _ ?_
        rw [decide_eq_true_eq]
        constructor
        ·intro h1 h2;have:=h2 (by omega);omega
        ·intro h1;exact Int.not_le.1 fun h2=>h1 fun _=>h2
      ·have e1:(decide ((el x.Tuples i).V< -4096)||decide ((el x.Tuples i).V>4096))=true:=by simp;omega
       rw [e1]
       simp only [Bool.not_true,Bool.false_and,gd_false,Option.bind_some,Bool.true_or,cond_true]
       exact ⟨fun _=>trivial,fun h=>absurd (fun h2=>g1 h2.1) h⟩)
     (fun hp=>by
      simp only []
      unfold summary_Validate_l6s
      rw [decide_eq_false (Int.lt_irrefl _),cond_false]
      congr 1
      rw [el_idx0 h0,Option.bind_some,predW h0 (Nat.le_refl _) hm,el_idx (by omega),Option.bind_some]
      by_cases q:(el x.Tuples 0).G=1∧(el x.Tuples 0).D=0∧(el x.Tuples (x.Tuples.length-1)).D=0∧sumG x.Tuples x.Tuples.length=x.N
      ·rw [vOf_t q]
       obtain ⟨q1,q2,q3,q4⟩:=q
       rw [q1,q2,q3,q4]
       simp
      ·rw [vOf_f q]
       have:(((sumG x.Tuples x.Tuples.length !=x.N||(el x.Tuples 0).G !=1)||(el x.Tuples 0).D !=0)||(el x.Tuples (x.Tuples.length-1)).D !=0)=true:=by
        simp only [Bool.or_eq_true,bne_iff_ne]
        omega
       rw [this];rfl)
    rw [show ((0:Int),(0:Int))=(sumG x.Tuples 0,((0:Nat):Int)) from by rw [sumG_zero];rfl]
    by_cases h2: ∀i,i<x.Tuples.length→okTu x.Tuples (mostS x.N x.K) i
    ·rw [H.2 fun i _ hi hn=>hn (h2 i hi)]
     congr 1
     by_cases q:(el x.Tuples 0).G=1∧(el x.Tuples 0).D=0∧(el x.Tuples (x.Tuples.length-1)).D=0∧sumG x.Tuples x.Tuples.length=x.N
     ·rw [vOf_t q,vOf_t]
      exact ⟨h1,⟨fun h=>by omega,fun h=>absurd h hN⟩,h2,fun _=>q⟩
     ·rw [vOf_f q,vOf_f]
      exact fun h=>q (h.2.2.2 h0)
    ·obtain ⟨i,hi,hn⟩:=not_all h2
     rw [H.1 ⟨i,Nat.zero_le _,hi,hn⟩,vOf_f]
     exact fun h=>h2 h.2.2.1
   ·have e0:((x.Tuples.length:Int)==0)=true:=by rw [show x.Tuples.length=0 by omega];rfl
    rw [e0,cond_true,vOf_f]
    intro h
    have:=h.2.1
    omega
 ·have e:(((((((decide (x.K<(1:Int)))||(decide (x.K>(64:Int))))||(decide (x.Cap<(2:Int))))||(decide (x.Cap>(65536:Int))))||(decide (x.N<(0:Int))))||(decide (x.N>(1099511627776:Int))))||(decide ((x.Tuples.length:Int)>x.Cap)))=true:=by
   unfold headSu at h1
   simp only [Bool.or_eq_true,decide_eq_true_eq];omega
  rw [e,cond_true,vOf_f fun h=>h1 h.1]
theorem ref20_validate (x:api_Summary):ref20_Validate x=some (vOf (okSu x)):=by
 unfold ref20_Validate
 simp only []
 by_cases h1:headSu x∧(x.Tuples.length=0↔x.N=0)
 ·have h1' :=h1.1
  unfold headSu at h1'
  have en:(ref20_New x.K x.Cap).2=0:=by
   unfold ref20_New
   have:(((!(ref11_MayK x.K))||(decide (x.Cap<(2:Int))))||(decide (x.Cap>(65536:Int))))=false:=by
    rw [(mayK_iff _).2 h1'.1];simp;omega
   simp only [this,cond_false]
  have eb:(((x.Tuples.length:Int)==0)==(x.N==0))=true:=by
   rw [beq_iff_eq,Bool.eq_iff_iff,beq_iff_eq,beq_iff_eq]
   have:=h1.2
   omega
  have e:((((((ref20_New x.K x.Cap).2 !=0)||(decide (x.N<(0:Int))))||(decide (x.N>(1099511627776:Int))))||(decide ((x.Tuples.length:Int)>x.Cap)))||(!(((x.Tuples.length:Int)==(0:Int))==(x.N==(0:Int)))))=false:=by
   rw [en,eb,Bool.eq_false_iff];simp only [Bool.or_eq_true,decide_eq_true_eq,Ne,bne_self_eq_false,Bool.not_true,Bool.false_eq_true,or_false,false_or];omega
  rw [e,cond_false]
  have hl:x.Tuples.length≤65536:=by omega
  have hm:x.Tuples.length≤maxLen:=by rw [maxLen_eq];omega
  have hM:=mostS_rng (n:=x.N) (k:=x.K) h1'.2.2.1 h1'.1.1
  unfold ref20_Validate_l3
  let good:Nat→Prop:=fun i=>okTu x.Tuples (mostS x.N x.K) i∧(i=0→(el x.Tuples i).G=1∧(el x.Tuples i).D=0)∧(i=x.Tuples.length-1→(el x.Tuples i).D=0)∧sumG x.Tuples (i+1)≤x.N
  have H:=loop_st (f:=fun s:Int×Int=>ref20_Validate_l3s x s.1 s.2) (fun i=>(sumG x.Tuples i,(i:Int))) 0 x.Tuples.length (Nat.zero_le _) (fun i=> ¬good i) 2
   (some (vOf (sumG x.Tuples x.Tuples.length=x.N)))
   (fun i _ hi hp=>by
    simp only []
    unfold ref20_Validate_l3s
    have hs:=sumG_rng (l:=x.Tuples) hM.2.1 hl i (by omega) fun j hj=>(Classical.byContradiction fun hn=>hp j (Nat.zero_le _) hj hn:good j).1
    rw [decide_eq_true (by omega:(i:Int)<(x.Tuples.length:Int)),cond_true,el_idx hi,Option.bind_some,succW hi hm,predW (by omega) (Nat.le_refl _) hm,m20_eq h1'.2.2.1 h1'.1.1]
    simp only []
    have el0:((i:Int)==0)=decide (i=0):=by rw [Bool.eq_iff_iff,beq_iff_eq,decide_eq_true_eq];omega
    have ell:((i:Int)==((x.Tuples.length-1:Nat):Int))=decide (i=x.Tuples.length-1):=by rw [Bool.eq_iff_iff,beq_iff_eq,decide_eq_true_eq];omega
    rw [el0,ell]
    have hN1:1≤x.N:=by have:=h1.2;omega
    have hMN:=hM.2.2 hN1
    by_cases gA:(-4096≤(el x.Tuples i).V∧(el x.Tuples i).V≤4096)∧(1≤(el x.Tuples i).G∧(el x.Tuples i).G≤x.N)∧(0≤(el x.Tuples i).D∧(el x.Tuples i).D≤x.N)
    ·have eA:(((((!(ref09_Value (el x.Tuples i).V))||(decide ((el x.Tuples i).G<(1:Int))))||(decide ((el x.Tuples i).G>x.N)))||(decide ((el x.Tuples i).D<(0:Int))))||(decide ((el x.Tuples i).D>x.N)))=false:=by
      rw [(value_iff _).2 gA.1,Bool.eq_false_iff];simp only [Bool.or_eq_true,decide_eq_true_eq,Ne,Bool.not_true,Bool.false_eq_true,or_false,false_or];omega
     rw [eA,w64_id (n:=(el x.Tuples i).G+(el x.Tuples i).D) (by omega) (by omega),w64_id (n:=sumG x.Tuples i+(el x.Tuples i).G) (by omega) (by omega),←sumG_succ hi]
     simp only [Bool.not_false,gd_true,Option.bind_some,Bool.false_or]
     have fin: ∀(c1:Bool),(c1=true↔(1≤i∧(el x.Tuples (i-1)).V>(el x.Tuples i).V))→
       (¬good i→(cond (((decide ((el x.Tuples i).G+(el x.Tuples i).D>mostS x.N x.K)||c1)||(decide (i=0)&&((el x.Tuples i).G !=1||(el x.Tuples i).D !=0)))||(decide (i=x.Tuples.length-1)&&(el x.Tuples i).D !=0)) (some (.inr 2))
        (cond (decide (sumG x.Tuples (i+1)>x.N)) (some (.inr 2)) (some (.inl (sumG x.Tuples (i+1),((i+1:Nat):Int))))):Option ((Int×Int)⊕Int))=some (.inr 2))∧
       (¬ ¬good i→(cond (((decide ((el x.Tuples i).G+(el x.Tuples i).D>mostS x.N x.K)||c1)||(decide (i=0)&&((el x.Tuples i).G !=1||(el x.Tuples i).D !=0)))||(decide (i=x.Tuples.length-1)&&(el x.Tuples i).D !=0)) (some (.inr 2))
        (cond (decide (sumG x.Tuples (i+1)>x.N)) (some (.inr 2)) (some (.inl (sumG x.Tuples (i+1),((i+1:Nat):Int))))):Option ((Int×Int)⊕Int))=some (.inl (sumG x.Tuples (i+1),((i+1:Nat):Int)))):=by
      intro c1 hc
      rw [cond_merge]
      refine step_iff ?_
      simp only [Bool.or_eq_true,Bool.and_eq_true,decide_eq_true_eq,bne_iff_ne,hc]
      show _↔ ¬(okTu x.Tuples (mostS x.N x.K) i∧_)
      unfold okTu
      omega
     rcases i with _|i
     ·have e4:decide (((0:Nat):Int)>0)=false:=rfl
      rw [e4]
      simp only [Bool.and_false,gd_false,Option.bind_some,Bool.false_and]
      exact fin false ⟨fun h=>(by cases h),fun h=>(by omega)⟩
     ·have e4:decide (((i+1:Nat):Int)>0)=true:=decide_eq_true (by omega)
      rw [e4,predW (by omega) (Nat.le_of_lt hi) hm,Nat.add_sub_cancel,el_idx (by omega)]
      by_cases gB:(el x.Tuples (i+1)).G+(el x.Tuples (i+1)).D>mostS x.N x.K
      ·rw [decide_eq_true gB]
       simp only [Bool.not_true,Bool.false_and,gd_false,Option.bind_some,Bool.true_or,cond_true]
       refine ⟨fun _=>trivial,fun h=>absurd (fun h2:good (i+1)=> ?_) h⟩
       have:=h2.1.2.1
       omega
      ·have fin' :=fin (decide ((el x.Tuples i).V>(el x.Tuples (i+1)).V)) (by rw [decide_eq_true_eq,Nat.add_sub_cancel];omega)
       rw [decide_eq_false gB] at fin' ⊢
       simp only [Bool.not_false,Bool.true_and,gd_true,Option.bind_some]
       exact fin'
    ·have eA:(((((!(ref09_Value (el x.Tuples i).V))||(decide ((el x.Tuples i).G<(1:Int))))||(decide ((el x.Tuples i).G>x.N)))||(decide ((el x.Tuples i).D<(0:Int))))||(decide ((el x.Tuples i).D>x.N)))=true:=by
      simp only [Bool.or_eq_true,decide_eq_true_eq,Bool.not_eq_true']
      rw [Bool.eq_false_iff,Ne,value_iff];omega
     rw [eA]
     simp only [Bool.not_true,Bool.true_or,Bool.false_and,gd_false,Option.bind_some,cond_true]
     refine ⟨fun _=>trivial,fun h=>absurd (fun h2:good i=>gA ?_) h⟩
     have:=h2.1
     unfold okTu at this
     omega)
   (fun hp=>by
    simp only []
    unfold ref20_Validate_l3s
    rw [decide_eq_false (Int.lt_irrefl _),cond_false]
    congr 1
    by_cases q:sumG x.Tuples x.Tuples.length=x.N
    ·rw [vOf_t q,q,bne_self_eq_false,cond_false]
    ·rw [vOf_f q,(bne_iff_ne).2 q,cond_true])
  rw [show ((0:Int),(0:Int))=(sumG x.Tuples 0,((0:Nat):Int)) from by rw [sumG_zero];rfl]
  by_cases h2: ∀i,i<x.Tuples.length→good i
  ·rw [H.2 fun i _ hi hn=>hn (h2 i hi)]
   congr 1
   by_cases q:sumG x.Tuples x.Tuples.length=x.N
   ·rw [vOf_t q,vOf_t]
    exact ⟨h1.1,h1.2,fun i hi=>(h2 i hi).1,fun h0=>⟨((h2 0 h0).2.1 rfl).1,((h2 0 h0).2.1 rfl).2,(h2 (x.Tuples.length-1) (by omega)).2.2.1 rfl,q⟩⟩
   ·rw [vOf_f q,vOf_f]
    intro h
    by_cases h0:0<x.Tuples.length
    ·exact q (h.2.2.2 h0).2.2.2
    ·have e0:x.Tuples.length=0:=by omega
     rw [e0,sumG_zero] at q
     have:=h1.2.1 e0
     omega
  ·obtain ⟨i,hi,hn⟩:=not_all h2
   rw [H.1 ⟨i,Nat.zero_le _,hi,hn⟩,vOf_f]
   intro h
   apply hn
   have h0:0<x.Tuples.length:=by omega
   have h5:=h.2.2.2 h0
   refine ⟨h.2.2.1 i hi,fun e=>by subst e;exact ⟨h5.1,h5.2.1⟩,fun e=>by subst e;exact h5.2.2.1, ?_⟩
   have mono: ∀k,i+1+k≤x.Tuples.length→sumG x.Tuples (i+1)≤sumG x.Tuples (i+1+k):=by
    intro k
    induction k with
    |zero=>intro _;exact Int.le_refl _
    |succ k ih=>
     intro hk
     have g1:=ih (by omega)
     have g2:=(h.2.2.1 (i+1+k) (by omega)).2.1
     have g3:sumG x.Tuples (i+1+(k+1))=_:=sumG_succ (l:=x.Tuples) (i:=i+1+k) (by omega)
     omega
   have:=mono (x.Tuples.length-(i+1)) (by omega)
   rw [show i+1+(x.Tuples.length-(i+1))=x.Tuples.length by omega,h5.2.2.2] at this
   exact this
 ·have e:((((((ref20_New x.K x.Cap).2 !=0)||(decide (x.N<(0:Int))))||(decide (x.N>(1099511627776:Int))))||(decide ((x.Tuples.length:Int)>x.Cap)))||(!(((x.Tuples.length:Int)==(0:Int))==(x.N==(0:Int)))))=true:=by
   by_cases hk:(1≤x.K∧x.K≤64)∧(2≤x.Cap∧x.Cap≤65536)
   ·by_cases hb:(x.Tuples.length=0↔x.N=0)
    ·simp only [Bool.or_eq_true,decide_eq_true_eq]
     unfold headSu at h1
     omega
    ·have:(((x.Tuples.length:Int)==0)==(x.N==0))=false:=by
      rw [beq_eq_false_iff_ne]
      intro h
      have:=congrArg (· =true) h
      simp only [beq_iff_eq,eq_iff_iff] at this
      omega
     rw [this];simp
   ·have en:(ref20_New x.K x.Cap).2=1:=by
     unfold ref20_New
     have:(((!(ref11_MayK x.K))||(decide (x.Cap<(2:Int))))||(decide (x.Cap>(65536:Int))))=true:=by
      simp only [Bool.or_eq_true,decide_eq_true_eq,Bool.not_eq_true']
      rw [Bool.eq_false_iff,Ne,mayK_iff];omega
     simp only [this,cond_true]
    rw [en];rfl
  rw [e,cond_true,vOf_f fun h=>h1 ⟨h.1,h.2.1⟩]
theorem same20_refl (x:api_Summary) (hl:x.Tuples.length≤maxLen):ref20_Same x x=some true:=by
 unfold ref20_Same
 simp only [bne_self_eq_false,Bool.or_false,cond_false]
 unfold ref20_Same_l3
 refine (loop_prop (f:=fun s:Int=>ref20_Same_l3s x x s) x.Tuples.length (fun _=>False) false (some true) (fun i hi _=>⟨fun h=>h.elim,fun _=> ?_⟩) (fun _=> ?_)).2 fun _ _ h=>h
 ·unfold ref20_Same_l3s
  rw [decide_eq_true (by omega:(i:Int)<(x.Tuples.length:Int)),cond_true,el_idx hi]
  simp [succW hi hl]
 ·unfold ref20_Same_l3s
  rw [decide_eq_false (Int.lt_irrefl _),cond_false]
end Go.Win
