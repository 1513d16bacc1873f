/- Pu: chapter 24: which configurations are valid. -/
import Derived.Test.YtmipeaidieflmaaGreatPuV2
set_option linter.unusedVariables false
set_option linter.unusedSimpArgs false
set_option linter.unnecessarySimpa false
set_option linter.unusedSectionVars false
namespace Go.Win
open Go.Vc Go.Dec
def cfgP (c:api_Config):Prop:=(1≤c.Kind∧c.Kind≤11)∧
 ((c.Kind=6∨c.Kind=10→c.W=0)∧(c.Kind=7→1≤c.W∧c.W≤64)∧(c.Kind≠6∧c.Kind≠10∧c.Kind≠7→1≤c.W∧c.W≤1048576))∧
 ((c.Kind=6∨c.Kind=7→c.Cap=0)∧(c.Kind=9→1≤c.Cap∧c.Cap≤64)∧(c.Kind=10→2≤c.Cap∧c.Cap≤65536)∧(c.Kind≠6∧c.Kind≠7∧c.Kind≠9∧c.Kind≠10→1≤c.Cap∧c.Cap≤65536))∧
 ((c.Kind=1∨c.Kind=6∨c.Kind=7∨c.Kind=8∨c.Kind=9→c.K=0)∧(c.Kind≠1∧c.Kind≠6∧c.Kind≠7∧c.Kind≠8∧c.Kind≠9→1≤c.K∧c.K≤64))∧
 ((c.Kind=4→1≤c.Agg∧c.Agg≤4)∧(c.Kind≠4→c.Agg=0))∧
 ((c.Kind=6→0≤c.P∧c.P≤4)∧(c.Kind≠6→c.P=0))∧
 ((c.Kind=9→1≤c.Chains∧c.Chains≤16)∧(c.Kind≠9→c.Chains=0))∧
 ((c.Kind=3→1≤c.Max∧c.Max≤1024)∧(c.Kind=8→0≤c.Max∧c.Max≤1)∧(c.Kind≠3∧c.Kind≠8→c.Max=0))
open Classical in
noncomputable def vCf (p:Prop):Int:=if p then 0 else 1
theorem vCf_t {p:Prop} (h:p):vCf p=0:=by unfold vCf;rw [if_pos h]
theorem vCf_f {p:Prop} (h: ¬p):vCf p=1:=by unfold vCf;rw [if_neg h]
theorem cond_vCf {b:Bool} {p:Prop} (h:b=true↔ ¬p):cond b (1:Int) 0=vCf p:=by
 cases b with
 |true=>rw [vCf_f (h.1 rfl)];rfl
 |false=>rw [vCf_t (Classical.byContradiction fun hn=>absurd (h.2 hn) (by decide))];rfl
theorem config_validate (c:api_Config):config_Validate c=vCf (cfgP c):=by
 obtain ⟨k,agg,w,kk,cap,p,ch,mx⟩:=c
 by_cases hk:1≤k∧k≤11
 ·have:k=1∨k=2∨k=3∨k=4∨k=5∨k=6∨k=7∨k=8∨k=9∨k=10∨k=11:=by omega
  rcases this with h|h|h|h|h|h|h|h|h|h|h<;>subst h<;>
   simp only [config_Validate,config_Validate_j18,config_Validate_j5,config_Validate_j23,config_Validate_j23_2,config_Validate_j23_3,config_Validate_j23_4,config_Validate_j23_5,config_Validate_j23_6,config_Validate_j23_7,config_Validate_j23_8,
    config_Validate_1_i1,config_Validate_1_i2,config_in,beq_self_eq_true,Bool.true_and,Bool.and_true,cond_true,cond_false,show ((1:Int)==2)=false from rfl,show ((1:Int)==3)=false from rfl,show ((1:Int)==4)=false from rfl,show ((1:Int)==5)=false from rfl,show ((1:Int)==6)=false from rfl,show ((1:Int)==7)=false from rfl,show ((1:Int)==8)=false from rfl,show ((1:Int)==9)=false from rfl,show ((1:Int)==10)=false from rfl,show ((1:Int)==11)=false from rfl,
    show ((2:Int)==3)=false from rfl,show ((2:Int)==4)=false from rfl,show ((2:Int)==6)=false from rfl,show ((2:Int)==7)=false from rfl,show ((2:Int)==9)=false from rfl,show ((2:Int)==10)=false from rfl,
    show ((3:Int)==6)=false from rfl,show ((3:Int)==7)=false from rfl,show ((3:Int)==9)=false from rfl,show ((3:Int)==10)=false from rfl,
    show ((4:Int)==3)=false from rfl,show ((4:Int)==6)=false from rfl,show ((4:Int)==7)=false from rfl,show ((4:Int)==9)=false from rfl,show ((4:Int)==10)=false from rfl,
    show ((5:Int)==2)=false from rfl,show ((5:Int)==3)=false from rfl,show ((5:Int)==4)=false from rfl,show ((5:Int)==6)=false from rfl,show ((5:Int)==7)=false from rfl,show ((5:Int)==9)=false from rfl,show ((5:Int)==10)=false from rfl,
    show ((7:Int)==6)=false from rfl,
    show ((8:Int)==2)=false from rfl,show ((8:Int)==3)=false from rfl,show ((8:Int)==4)=false from rfl,show ((8:Int)==5)=false from rfl,show ((8:Int)==6)=false from rfl,show ((8:Int)==7)=false from rfl,show ((8:Int)==9)=false from rfl,show ((8:Int)==10)=false from rfl,show ((8:Int)==11)=false from rfl,
    show ((9:Int)==6)=false from rfl,show ((9:Int)==7)=false from rfl,show ((10:Int)==6)=false from rfl,show ((10:Int)==7)=false from rfl,show ((10:Int)==9)=false from rfl,
    show ((11:Int)==2)=false from rfl,show ((11:Int)==3)=false from rfl,show ((11:Int)==4)=false from rfl,show ((11:Int)==5)=false from rfl,show ((11:Int)==6)=false from rfl,show ((11:Int)==7)=false from rfl,show ((11:Int)==9)=false from rfl,show ((11:Int)==10)=false from rfl,
    show (decide ((1048576:Int)>0))=true from rfl,show (decide ((64:Int)>0))=true from rfl,show (decide ((0:Int)>0))=false from rfl]<;>
   refine cond_vCf ?_<;>unfold cfgP<;>simp [-not_and,-Classical.not_imp]<;>omega
 ·rw [vCf_f fun h=>hk h.1]
  have e: ∀n:Int,1≤n→n≤11→(k==n)=false:=fun n h1 h2=>by rw [beq_eq_false_iff_ne];omega
  unfold config_Validate config_Validate_j18
  simp only [e 6 (by decide) (by decide),e 7 (by decide) (by decide),e 9 (by decide) (by decide),e 10 (by decide) (by decide),e 3 (by decide) (by decide),e 4 (by decide) (by decide),e 2 (by decide) (by decide),e 5 (by decide) (by decide),e 11 (by decide) (by decide),e 8 (by decide) (by decide),e 1 (by decide) (by decide),cond_false]
theorem ref24_validate (c:api_Config):ref24_Validate c=vCf (cfgP c):=by
 obtain ⟨k,agg,w,kk,cap,p,ch,mx⟩:=c
 have emay:ref09_May w cap 0=true↔(1≤w∧w≤1048576)∧(1≤cap∧cap≤65536):=by rw [may_iff];omega
 have emk:=mayK_iff kk
 have eag:ref13_MayAgg agg=true↔1≤agg∧agg≤4:=by unfold ref13_MayAgg;simp
 by_cases hk:1≤k∧k≤11
 ·have:k=1∨k=2∨k=3∨k=4∨k=5∨k=6∨k=7∨k=8∨k=9∨k=10∨k=11:=by omega
  rcases this with h|h|h|h|h|h|h|h|h|h|h<;>subst h<;>
   simp only [ref24_Validate,ref24_Plain,ref24_Plain_j3,ref24_Plain_j2,ref24_ranges,ref24_ranges_j3,beq_self_eq_true,Bool.true_and,Bool.and_true,cond_true,cond_false,show ((2:Int)==1)=false from rfl,show ((3:Int)==1)=false from rfl,show ((3:Int)==2)=false from rfl,show ((3:Int)==5)=false from rfl,show ((3:Int)==11)=false from rfl,
    show ((4:Int)==1)=false from rfl,show ((4:Int)==2)=false from rfl,show ((4:Int)==3)=false from rfl,show ((4:Int)==5)=false from rfl,show ((4:Int)==11)=false from rfl,
    show ((5:Int)==1)=false from rfl,show ((5:Int)==2)=false from rfl,
    show ((6:Int)==1)=false from rfl,show ((6:Int)==2)=false from rfl,show ((6:Int)==3)=false from rfl,show ((6:Int)==4)=false from rfl,show ((6:Int)==5)=false from rfl,show ((6:Int)==11)=false from rfl,
    show ((7:Int)==1)=false from rfl,show ((7:Int)==2)=false from rfl,show ((7:Int)==3)=false from rfl,show ((7:Int)==4)=false from rfl,show ((7:Int)==5)=false from rfl,show ((7:Int)==6)=false from rfl,show ((7:Int)==11)=false from rfl,
    show ((8:Int)==1)=false from rfl,show ((8:Int)==2)=false from rfl,show ((8:Int)==3)=false from rfl,show ((8:Int)==4)=false from rfl,show ((8:Int)==5)=false from rfl,show ((8:Int)==6)=false from rfl,show ((8:Int)==7)=false from rfl,show ((8:Int)==11)=false from rfl,
    show ((9:Int)==1)=false from rfl,show ((9:Int)==2)=false from rfl,show ((9:Int)==3)=false from rfl,show ((9:Int)==4)=false from rfl,show ((9:Int)==5)=false from rfl,show ((9:Int)==6)=false from rfl,show ((9:Int)==7)=false from rfl,show ((9:Int)==8)=false from rfl,show ((9:Int)==11)=false from rfl,
    show ((10:Int)==1)=false from rfl,show ((10:Int)==2)=false from rfl,show ((10:Int)==3)=false from rfl,show ((10:Int)==4)=false from rfl,show ((10:Int)==5)=false from rfl,show ((10:Int)==6)=false from rfl,show ((10:Int)==7)=false from rfl,show ((10:Int)==8)=false from rfl,show ((10:Int)==9)=false from rfl,show ((10:Int)==11)=false from rfl,
    show ((11:Int)==1)=false from rfl,show ((11:Int)==2)=false from rfl,show ((11:Int)==5)=false from rfl]<;>
   refine cond_vCf ?_<;>unfold cfgP<;>simp only [Bool.or_eq_true,Bool.not_eq_true',Bool.and_eq_false_iff,Bool.or_eq_false_iff,beq_eq_false_iff_ne,decide_eq_false_iff_not,ne_eq]<;>
   (try simp only [Bool.eq_false_iff,ne_eq,emay,emk,eag])<;>simp [-not_and,-Classical.not_imp]<;>omega
 ·rw [vCf_f fun h=>hk h.1]
  have e: ∀n:Int,1≤n→n≤11→(k==n)=false:=fun n h1 h2=>by rw [beq_eq_false_iff_ne];omega
  unfold ref24_Validate ref24_ranges ref24_ranges_j3
  simp only [e 6 (by decide) (by decide),e 7 (by decide) (by decide),e 9 (by decide) (by decide),e 10 (by decide) (by decide),e 3 (by decide) (by decide),e 4 (by decide) (by decide),e 2 (by decide) (by decide),e 5 (by decide) (by decide),e 11 (by decide) (by decide),e 8 (by decide) (by decide),e 1 (by decide) (by decide),cond_false,Bool.not_false,Bool.or_true,cond_true]
end Go.Win
