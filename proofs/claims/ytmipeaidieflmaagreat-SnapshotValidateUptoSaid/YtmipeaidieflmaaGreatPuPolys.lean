/- Pu: chapter 08: polynomials (products and powers of wide numbers). -/
import Derived.Test.YtmipeaidieflmaaGreatPuSums2
set_option linter.unusedVariables false
set_option linter.unusedSimpArgs false
set_option linter.unnecessarySimpa false
set_option linter.unusedSectionVars false
namespace Go.Win
open Go.Vc Go.Dec
theorem wide_product:wide_Product=ref02_Product:=rfl
theorem wide_of:wide_Of=ref02_Of:=rfl
theorem split_l (a b c:Int):(0*18446744073709551616+a)*(b*18446744073709551616+c)=(a*b)*18446744073709551616+a*c:=by grind
theorem split_r (a b c:Int):(b*18446744073709551616+c)*(0*18446744073709551616+a)=(a*b)*18446744073709551616+a*c:=by grind
theorem big_prod {a b c d:Int} (ha:1≤a) (hb:0≤b) (hc:1≤c) (hd:0≤d):340282366920938463463374607431768211456≤(a*18446744073709551616+b)*(c*18446744073709551616+d):=by
 have:=Int.mul_le_mul (show 18446744073709551616≤a*18446744073709551616+b by omega) (show 18446744073709551616≤c*18446744073709551616+d by omega) (by decide) (by omega)
 simpa using this
theorem mul_j2 {h a b c:Int} (ha:0≤a∧a<18446744073709551616) (hb:0≤b∧b<18446744073709551616) (hc:0≤c∧c<18446744073709551616):
  wide_Mul_j2 h a b c=some (if (a*b)*18446744073709551616+a*c<340282366920938463463374607431768211456 then (ofW ((a*b)*18446744073709551616+a*c),true) else (⟨0,0⟩,false)):=by
 have p1:=prod_nn ha hb
 have p2:=prod_nn ha hc
 unfold wide_Mul_j2
 simp only [wide_product]
 rw [product_eq ha hc,product_eq ha hb]
 generalize a*b=m at*
 generalize a*c=n at*
 have e1:(ofW m).Hi=m/18446744073709551616:=rfl
 have e2:(ofW m).Lo=m%18446744073709551616:=rfl
 rw [e1,e2]
 by_cases hh:m<18446744073709551616
 ·have c1:(m/18446744073709551616 !=0)=false:=by rw [bne_eq_false_iff_eq];omega
  have oM:okW (api_Wide.mk (m%18446744073709551616) 0):=by unfold okW;simp only;omega
  have vM:wv (api_Wide.mk (m%18446744073709551616) 0)=m*18446744073709551616:=by unfold wv;simp only;omega
  rw [c1,cond_false,wide_add (ofW_ok p2.1 p2.2) oM,wv_ofW,vM,Int.add_comm n]
  simp only [Option.bind_some]
 ·have c1:(m/18446744073709551616 !=0)=true:=by rw [bne_iff_ne];omega
  rw [c1,cond_true,if_neg (by omega)]
theorem wide_mul {a b:api_Wide} (ha:okW a) (hb:okW b):wide_Mul a b=some (if wv a*wv b<340282366920938463463374607431768211456 then (ofW (wv a*wv b),true) else (⟨0,0⟩,false)):=by
 obtain ⟨ah,al⟩:=a
 obtain ⟨bh,bl⟩:=b
 unfold okW at ha hb
 simp only at ha hb
 unfold wide_Mul wv
 simp only
 by_cases h1:ah=0
 ·subst h1
  simp only [bne_self_eq_false,Bool.false_and,cond_false]
  rw [mul_j2 (by omega) (by omega) (by omega),split_l]
 ·have c1:(ah !=0)=true:=by rw [bne_iff_ne];exact h1
  rw [c1]
  by_cases h2:bh=0
  ·subst h2
   simp only [bne_self_eq_false,Bool.and_false,cond_false,cond_true]
   rw [mul_j2 (by omega) (by omega) (by omega),split_r]
  ·have c2:(bh !=0)=true:=by rw [bne_iff_ne];exact h2
   have:=big_prod (a:=ah) (b:=al) (c:=bh) (d:=bl) (by omega) (by omega) (by omega) (by omega)
   rw [c2,if_neg (by omega)]
   rfl
theorem ref_mul {a b:api_Wide} (ha:okW a) (hb:okW b):ref02_Mul a b=some (if wv a*wv b<340282366920938463463374607431768211456 then (ofW (wv a*wv b),true) else (⟨0,0⟩,false)):=by
 obtain ⟨ah,al⟩:=a
 obtain ⟨bh,bl⟩:=b
 unfold okW at ha hb
 simp only at ha hb
 unfold ref02_Mul wv
 simp only
 have q1:=prod_nn (x:=ah) (y:=bl) (by omega) (by omega)
 have q2:=prod_nn (x:=al) (y:=bh) (by omega) (by omega)
 have q3:=prod_nn (x:=al) (y:=bl) (by omega) (by omega)
 rw [product_eq (by omega) (by omega),product_eq (by omega) (by omega),product_eq (by omega) (by omega)]
 have f1:(ofW (ah*bl)).Hi=ah*bl/18446744073709551616:=rfl
 have f2:(ofW (ah*bl)).Lo=ah*bl%18446744073709551616:=rfl
 have f3:(ofW (al*bh)).Hi=al*bh/18446744073709551616:=rfl
 have f4:(ofW (al*bh)).Lo=al*bh%18446744073709551616:=rfl
 rw [f1,f2,f3,f4,wu64_eq]
 by_cases h3:ah≠0∧bh≠0
 ·have c1:(ah !=0)=true:=by rw [bne_iff_ne];exact h3.1
  have c2:(bh !=0)=true:=by rw [bne_iff_ne];exact h3.2
  have:=big_prod (a:=ah) (b:=al) (c:=bh) (d:=bl) (by omega) (by omega) (by omega) (by omega)
  rw [c1,c2,if_neg (by omega)]
  rfl
 ·have c1:((ah !=0)&&(bh !=0))=false:=by
   rw [Bool.and_eq_false_iff,bne_eq_false_iff_eq,bne_eq_false_iff_eq];omega
  have e:(ah*18446744073709551616+al)*(bh*18446744073709551616+bl)=(ah*bl+al*bh)*18446744073709551616+al*bl:=by
   by_cases h1:ah=0
   ·subst h1;grind
   ·have h2:bh=0:=by omega
    subst h2;grind
  have z:ah*bl=0∨al*bh=0:=by
   by_cases h1:ah=0
   ·left;rw [h1,Int.zero_mul]
   ·right;rw [show bh=0 by omega,Int.mul_zero]
  rw [c1,cond_false,e]
  generalize ah*bl=m at*
  generalize al*bh=n at*
  generalize al*bl=k at*
  by_cases hh:m+n<18446744073709551616
  ·have c2:((m/18446744073709551616 !=0)||(n/18446744073709551616 !=0))=false:=by
    rw [Bool.or_eq_false_iff,bne_eq_false_iff_eq,bne_eq_false_iff_eq];omega
   have oM:okW (api_Wide.mk ((m%18446744073709551616+n%18446744073709551616)%18446744073709551616) 0):=by unfold okW;simp only;omega
   have vM:wv (api_Wide.mk ((m%18446744073709551616+n%18446744073709551616)%18446744073709551616) 0)=(m+n)*18446744073709551616:=by unfold wv;simp only;omega
   rw [c2,cond_false,ref_wide_add,wide_add (ofW_ok q3.1 q3.2) oM,wv_ofW,vM,Int.add_comm k]
   simp only [Option.bind_some]
  ·have c2:((m/18446744073709551616 !=0)||(n/18446744073709551616 !=0))=true:=by
    rw [Bool.or_eq_true,bne_iff_ne,bne_iff_ne];omega
   rw [c2,cond_true,if_neg (by omega)]
theorem of_ok {n:Int} (h:0≤n∧n<18446744073709551616):okW (ref02_Of n):=by
 unfold okW ref02_Of;simp only;omega
theorem mul_nn {a b:api_Wide} (ha:okW a) (hb:okW b):0≤wv a*wv b:=Int.mul_nonneg (wv_range ha).1 (wv_range hb).1
end Go.Win
