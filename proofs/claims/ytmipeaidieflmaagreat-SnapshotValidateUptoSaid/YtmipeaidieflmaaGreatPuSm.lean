/- Pu: chapters 13, 14: which smooth histograms are valid. -/
import Derived.Test.YtmipeaidieflmaaGreatPuMk
import Derived.Test.YtmipeaidieflmaaGreatPuPolys
set_option linter.unusedVariables false
set_option linter.unusedSimpArgs false
set_option linter.unnecessarySimpa false
set_option linter.unusedSectionVars false
namespace Go.Win
open Go.Vc Go.Dec
theorem of_eq {m:api_Mark} (h1: -4096≤m.Min∧m.Min≤4096) (h2: -4096≤m.Max∧m.Max≤4096) (agg:Int):smooth_Of m agg=ref13_Of m agg:=by
 have e1:(num_Sub m.Max m.Min).1=m.Max-m.Min:=by
  unfold num_Sub
  rw [w64_id (n:=m.Max-m.Min) (by omega) (by omega)]
  cases hb:((!((decide (m.Max≥(0:Int)))==(decide (m.Min≥(0:Int)))))&&(!((decide (m.Max-m.Min≥(0:Int)))==(decide (m.Max≥(0:Int)))))) with
  |false=>rfl
  |true=>
   simp only [Bool.and_eq_true,Bool.not_eq_true',beq_eq_false_iff_ne,ne_eq] at hb
   obtain ⟨g1,g2⟩:=hb
   by_cases a1:m.Max≥0<;>by_cases a2:m.Min≥0<;>by_cases a3:m.Max-m.Min≥0<;>simp [a1,a2,a3] at g1 g2<;>omega
 have e2:ref01_Sub m.Max m.Min=(m.Max-m.Min,true):=by
  unfold ref01_Sub
  have:((decide (m.Min<0)&&decide (m.Max>w64 (9223372036854775807+m.Min)))||(decide (m.Min>0)&&decide (m.Max<w64 (-9223372036854775808+m.Min))))=false:=by
   by_cases g1:m.Min<0
   ·rw [w64_id (n:=9223372036854775807+m.Min) (by omega) (by omega)]
    simp;omega
   ·by_cases g2:m.Min>0
    ·rw [w64_id (n:= -9223372036854775808+m.Min) (by omega) (by omega)]
     simp;omega
    ·simp;omega
  rw [this,cond_false,w64_id]<;>omega
 unfold smooth_Of ref13_Of
 rw [e2]
 simp only [e1,cond_true]
 rfl
theorem good13 (w k c n:Int):marks_Good w k c n=true↔(1≤w∧w≤1048576)∧(1≤c∧c≤65536)∧(0≤n∧n≤16777216)∧(1≤k∧k≤64):=by
 unfold marks_Good;simp;omega
def parP (w k c n:Int):Prop:=(1≤w∧w≤1048576)∧(1≤c∧c≤65536)∧(0≤n∧n≤16777216)∧(1≤k∧k≤64)
def okSm (x:api_Smooth):Prop:=(1≤x.Agg∧x.Agg≤4)∧parP x.W x.K x.Cap x.Now∧okMarks x.Marks x.Seq x.Cap x.Now x.W (smooth_least x.Agg)∧
 ∀i,i<x.Marks.length→(2≤i→ ¬smooth_near (el x.Marks (i-2)) (el x.Marks i) x.Agg x.K=true)∧
  (1≤i→(el x.Marks i).Seq-(el x.Marks (i-1)).Seq>1→smooth_near (el x.Marks (i-1)) (el x.Marks i) x.Agg x.K=true)
theorem okMarks_rng {l:List api_Mark} {seq cap now w lo:Int} (hlo: -4096≤lo) (h:okMarks l seq cap now w lo) {i:Nat} (hi:i<l.length):
  (1≤(el l i).Seq∧(el l i).Seq≤1099511627776)∧(-4096≤(el l i).Min∧(el l i).Min≤4096)∧(-4096≤(el l i).Max∧(el l i).Max≤4096):=by
 have h1:=h.2.1 i hi
 unfold okMk mk1 mk2 at h1
 have:=h.1
 omega
theorem smooth_validate (x:api_Smooth) (hl:x.Marks.length≤maxLen):smooth_Validate x=some (vOf (okSm x)):=by
 unfold smooth_Validate
 simp only []
 by_cases h1:(1≤x.Agg∧x.Agg≤4)∧parP x.W x.K x.Cap x.Now
 ·have e1:smooth_good x.Agg x.W x.K x.Cap x.Now=true:=by
   unfold smooth_good
   simp only [(good13 _ _ _ _).2 h1.2,Bool.and_true,Bool.and_eq_true,decide_eq_true_eq]
   exact h1.1
  rw [e1,marks_valid _ _ _ _ _ _ hl]
  simp only [Bool.not_true,Bool.not_false,gd_true,Option.bind_some,Bool.false_or]
  by_cases h2:okMarks x.Marks x.Seq x.Cap x.Now x.W (smooth_least x.Agg)
  ·rw [bOf_t h2,Bool.not_true,cond_false]
   unfold smooth_Validate_l3
   have H:=loop_prop (f:=fun s:Int=>smooth_Validate_l3s x s) x.Marks.length (fun i=> ¬((2≤i→ ¬smooth_near (el x.Marks (i-2)) (el x.Marks i) x.Agg x.K=true)∧
     (1≤i→(el x.Marks i).Seq-(el x.Marks (i-1)).Seq>1→smooth_near (el x.Marks (i-1)) (el x.Marks i) x.Agg x.K=true))) 2 (some 0)
    (fun i hi _=>by
     unfold smooth_Validate_l3s
     rw [decide_eq_true (by omega:(i:Int)<(x.Marks.length:Int)),cond_true,el_idx hi,Option.bind_some,succW hi hl]
     simp only []
     have key: ∀j,j+1=i→w64 ((el x.Marks i).Seq-(el x.Marks j).Seq)=(el x.Marks i).Seq-(el x.Marks j).Seq:=by
      intro j hj
      have g1:=okMarks_rng (least_ge _) h2 hi
      have g2:=okMarks_rng (least_ge _) h2 (show j<x.Marks.length by omega)
      rw [w64_id]<;>omega
     have key1:1≤i→idx x.Marks (w64 ((i:Int)-1))=some (el x.Marks (i-1)):=fun h=>by rw [predW (by omega) (Nat.le_of_lt hi) hl,el_idx (by omega)]
     have key2:2≤i→idx x.Marks (w64 ((i:Int)-2))=some (el x.Marks (i-2)):=fun h=>by
      have:w64 ((i:Int)-2)=((i-2:Nat):Int):=by rw [maxLen_eq] at hl;rw [w64_id]<;>omega
      rw [this,el_idx (by omega)]
     by_cases g1:1≤i
     ·rw [decide_eq_true (by omega:(i:Int)≥1),key1 g1]
      simp only [gd_true,Option.bind_some,Bool.true_and,key (i-1) (by omega)]
      by_cases g3:(el x.Marks i).Seq-(el x.Marks (i-1)).Seq>1
      ·simp only [g3,decide_true,gd_true,Option.bind_some,Bool.true_and]
       by_cases g2:2≤i
       ·rw [decide_eq_true (by omega:(i:Int)≥2),key2 g2]
        simp only [gd_true,Option.bind_some,Bool.true_and,cond_merge]
        refine step_iff ?_
        simp only [g1,g2,Bool.or_eq_true,Bool.not_eq_true']
        cases smooth_near (el x.Marks (i-2)) (el x.Marks i) x.Agg x.K<;>cases smooth_near (el x.Marks (i-1)) (el x.Marks i) x.Agg x.K<;>simp
       ·rw [decide_eq_false (by omega: ¬(i:Int)≥2)]
        simp only [gd_false,Option.bind_some,Bool.false_and,cond_false]
        refine step_iff ?_
        simp only [g1,g2,Bool.not_eq_true']
        cases smooth_near (el x.Marks (i-1)) (el x.Marks i) x.Agg x.K<;>simp
      ·simp only [g3,decide_false,gd_false,Option.bind_some,Bool.false_and,cond_false]
       by_cases g2:2≤i
       ·rw [decide_eq_true (by omega:(i:Int)≥2),key2 g2]
        simp only [gd_true,Option.bind_some,Bool.true_and]
        refine step_iff ?_
        simp [g1,g2]
       ·rw [decide_eq_false (by omega: ¬(i:Int)≥2)]
        simp only [gd_false,Option.bind_some,Bool.false_and,cond_false]
        exact ⟨fun h=>absurd ⟨fun h2=>absurd h2 g2,fun _ h3=>h3.elim⟩ h,fun _=>trivial⟩
     ·rw [decide_eq_false (by omega: ¬(i:Int)≥2),decide_eq_false (by omega: ¬(i:Int)≥1)]
      simp only [gd_false,Option.bind_some,Bool.false_and,cond_false]
      exact ⟨fun h=>absurd ⟨fun h2=>absurd h2 (by omega),fun h3=>absurd h3 g1⟩ h,fun _=>trivial⟩)
    (fun _=>by
     unfold smooth_Validate_l3s
     rw [decide_eq_false (Int.lt_irrefl _),cond_false])
   by_cases h3: ∀i,i<x.Marks.length→((2≤i→ ¬smooth_near (el x.Marks (i-2)) (el x.Marks i) x.Agg x.K=true)∧
     (1≤i→(el x.Marks i).Seq-(el x.Marks (i-1)).Seq>1→smooth_near (el x.Marks (i-1)) (el x.Marks i) x.Agg x.K=true))
   ·rw [H.2 fun i hi hn=>hn (h3 i hi),vOf_t]
    exact ⟨h1.1,h1.2,h2,h3⟩
   ·rw [H.1 (not_all h3),vOf_f]
    exact fun h=>h3 h.2.2.2
  ·rw [bOf_f h2,vOf_f fun h=>h2 h.2.2.1]
   rfl
 ·have e1:smooth_good x.Agg x.W x.K x.Cap x.Now=false:=by
   rw [Bool.eq_false_iff]
   intro h
   unfold smooth_good at h
   simp only [Bool.and_eq_true,decide_eq_true_eq,good13] at h
   exact h1 h
  rw [e1,vOf_f fun h=>h1 ⟨h.1,h.2.1⟩]
  rfl
theorem ref13_validate (x:api_Smooth) (hl:x.Marks.length≤maxLen):ref13_Validate x=some (vOf (okSm x)):=by
 unfold ref13_Validate
 simp only []
 by_cases h1:(1≤x.Agg∧x.Agg≤4)∧parP x.W x.K x.Cap x.Now
 ·have e1:ref13_MayAgg x.Agg=true:=by unfold ref13_MayAgg;simp;exact h1.1
  have e2:ref09_May x.W x.Cap x.Now=true:=(may_iff _ _ _).2 ⟨h1.2.1,h1.2.2.1,h1.2.2.2.1⟩
  have e3:ref11_MayK x.K=true:=(mayK_iff _).2 h1.2.2.2.2
  rw [e1,e2,e3,ref13_marks _ _ _ _ _ _ h1.1 h1.2.2.1.2 h1.2.2.2.1.2 hl]
  simp only [Bool.not_true,Bool.not_false,gd_true,Option.bind_some,Bool.or_false,Bool.false_or]
  by_cases h2:okMarks x.Marks x.Seq x.Cap x.Now x.W (smooth_least x.Agg)
  ·rw [bOf_t h2,Bool.not_true,cond_false]
   unfold ref13_Validate_l3
   have H:=loop_prop (f:=fun s:Int=>ref13_Validate_l3s x s) x.Marks.length (fun i=> ¬((2≤i→ ¬smooth_near (el x.Marks (i-2)) (el x.Marks i) x.Agg x.K=true)∧
     (1≤i→(el x.Marks i).Seq-(el x.Marks (i-1)).Seq>1→smooth_near (el x.Marks (i-1)) (el x.Marks i) x.Agg x.K=true))) 2 (some 0)
    (fun i hi _=>by
     unfold ref13_Validate_l3s
     rw [decide_eq_true (by omega:(i:Int)<(x.Marks.length:Int)),cond_true,el_idx hi,Option.bind_some,succW hi hl]
     simp only []
     have eof: ∀j,j<x.Marks.length→ref13_Of (el x.Marks j) x.Agg=smooth_Of (el x.Marks j) x.Agg:=by
      intro j hj
      have g2:=okMarks_rng (least_ge _) h2 hj
      exact (of_eq g2.2.1 g2.2.2 _).symm
     have near: ∀j,j<x.Marks.length→decide (w64 (w64 (x.K+1)*ref13_Of (el x.Marks i) x.Agg)≥w64 (x.K*ref13_Of (el x.Marks j) x.Agg))=smooth_near (el x.Marks j) (el x.Marks i) x.Agg x.K:=by
      intro j hj
      rw [eof i hi,eof j hj];rfl
     have nearN: ∀j,j<x.Marks.length→decide (w64 (w64 (x.K+1)*ref13_Of (el x.Marks i) x.Agg)<w64 (x.K*ref13_Of (el x.Marks j) x.Agg))= !smooth_near (el x.Marks j) (el x.Marks i) x.Agg x.K:=by
      intro j hj
      rw [←near j hj,Bool.eq_iff_iff,Bool.not_eq_true',decide_eq_true_eq,decide_eq_false_iff_not]
      omega
     have key: ∀j,j+1=i→w64 ((el x.Marks j).Seq+1)=(el x.Marks j).Seq+1:=by
      intro j hj
      have g2:=okMarks_rng (least_ge _) h2 (show j<x.Marks.length by omega)
      rw [w64_id]<;>omega
     have key1:1≤i→idx x.Marks (w64 ((i:Int)-1))=some (el x.Marks (i-1)):=fun h=>by rw [predW (by omega) (Nat.le_of_lt hi) hl,el_idx (by omega)]
     have key2:2≤i→idx x.Marks (w64 ((i:Int)-2))=some (el x.Marks (i-2)):=fun h=>by
      have:w64 ((i:Int)-2)=((i-2:Nat):Int):=by rw [maxLen_eq] at hl;rw [w64_id]<;>omega
      rw [this,el_idx (by omega)]
     by_cases g1:1≤i
     ·rw [decide_eq_true (by omega:(i:Int)>0),key1 g1]
      simp only [gd_true,Option.bind_some,Bool.true_and,key (i-1) (by omega)]
      by_cases g3:(el x.Marks i).Seq-(el x.Marks (i-1)).Seq>1
      ·have g3' :(el x.Marks i).Seq>(el x.Marks (i-1)).Seq+1:=by omega
       simp only [g3,g3',decide_true,gd_true,Option.bind_some,Bool.true_and,nearN (i-1) (by omega)]
       by_cases g2:2≤i
       ·rw [decide_eq_true (by omega:(i:Int)>1),key2 g2]
        simp only [gd_true,Option.bind_some,Bool.true_and,cond_merge,near (i-2) (by omega)]
        refine step_iff ?_
        simp only [g1,g2,Bool.or_eq_true,Bool.not_eq_true']
        cases smooth_near (el x.Marks (i-2)) (el x.Marks i) x.Agg x.K<;>cases smooth_near (el x.Marks (i-1)) (el x.Marks i) x.Agg x.K<;>simp
       ·rw [decide_eq_false (by omega: ¬(i:Int)>1)]
        simp only [gd_false,Option.bind_some,Bool.false_and,cond_false]
        refine step_iff ?_
        simp only [g1,g2,Bool.not_eq_true']
        cases smooth_near (el x.Marks (i-1)) (el x.Marks i) x.Agg x.K<;>simp
      ·have g3' : ¬(el x.Marks i).Seq>(el x.Marks (i-1)).Seq+1:=by omega
       simp only [g3,g3',decide_false,gd_false,Option.bind_some,Bool.false_and,cond_false]
       by_cases g2:2≤i
       ·rw [decide_eq_true (by omega:(i:Int)>1),key2 g2]
        simp only [gd_true,Option.bind_some,Bool.true_and,near (i-2) (by omega)]
        refine step_iff ?_
        simp [g1,g2]
       ·rw [decide_eq_false (by omega: ¬(i:Int)>1)]
        simp only [gd_false,Option.bind_some,Bool.false_and,cond_false]
        exact ⟨fun h=>absurd ⟨fun h2=>absurd h2 g2,fun _ h3=>h3.elim⟩ h,fun _=>trivial⟩
     ·rw [decide_eq_false (by omega: ¬(i:Int)>1),decide_eq_false (by omega: ¬(i:Int)>0)]
      simp only [gd_false,Option.bind_some,Bool.false_and,cond_false]
      exact ⟨fun h=>absurd ⟨fun h2=>absurd h2 (by omega),fun h3=>absurd h3 g1⟩ h,fun _=>trivial⟩)
    (fun _=>by
     unfold ref13_Validate_l3s
     rw [decide_eq_false (Int.lt_irrefl _),cond_false])
   by_cases h3: ∀i,i<x.Marks.length→((2≤i→ ¬smooth_near (el x.Marks (i-2)) (el x.Marks i) x.Agg x.K=true)∧
     (1≤i→(el x.Marks i).Seq-(el x.Marks (i-1)).Seq>1→smooth_near (el x.Marks (i-1)) (el x.Marks i) x.Agg x.K=true))
   ·rw [H.2 fun i hi hn=>hn (h3 i hi),vOf_t]
    exact ⟨h1.1,h1.2,h2,h3⟩
   ·rw [H.1 (not_all h3),vOf_f]
    exact fun h=>h3 h.2.2.2
  ·rw [bOf_f h2,vOf_f fun h=>h2 h.2.2.1]
   rfl
 ·have e1:((!ref13_MayAgg x.Agg|| !ref09_May x.W x.Cap x.Now)|| !ref11_MayK x.K)=true:=by
   rw [Bool.or_eq_true,Bool.or_eq_true,Bool.not_eq_true',Bool.not_eq_true',Bool.not_eq_true',Bool.eq_false_iff,Bool.eq_false_iff,Bool.eq_false_iff,Ne,Ne,Ne,may_iff,mayK_iff]
   unfold ref13_MayAgg
   unfold parP at h1
   simp only [Bool.and_eq_true,decide_eq_true_eq]
   omega
  rw [e1,vOf_f fun h=>h1 ⟨h.1,h.2.1⟩]
  rfl
theorem mk_refl (l:List api_Mark) (hl:l.length≤maxLen):ref13_SameMarks l l=some true:=by
 unfold ref13_SameMarks
 rw [bne_self_eq_false,cond_false]
 unfold ref13_SameMarks_l3
 refine (loop_prop (f:=fun s:Int=>ref13_SameMarks_l3s l l s) l.length (fun _=>False) false (some true) (fun i hi _=>⟨fun h=>h.elim,fun _=> ?_⟩) (fun _=> ?_)).2 fun _ _ h=>h
 ·unfold ref13_SameMarks_l3s
  rw [decide_eq_true (by omega:(i:Int)<(l.length:Int)),cond_true,el_idx hi]
  simp [succW hi hl]
 ·unfold ref13_SameMarks_l3s
  rw [decide_eq_false (Int.lt_irrefl _),cond_false]
theorem same13_refl (x:api_Smooth) (hl:x.Marks.length≤maxLen):ref13_Same x x=some true:=by
 unfold ref13_Same;simp [mk_refl _ hl]
theorem same14_refl (x:api_Spread) (hl:x.Marks.length≤maxLen):ref14_Same x x=some true:=by
 unfold ref14_Same;simp [mk_refl _ hl]
end Go.Win
