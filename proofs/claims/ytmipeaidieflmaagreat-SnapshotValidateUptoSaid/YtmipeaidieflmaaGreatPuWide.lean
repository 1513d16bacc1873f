/- Pu: wide numbers. -/
import Derived.Test.YtmipeaidieflmaaGreatPu0
import Derived.Test.YtmipeaidieflmaaGreatWin
set_option linter.unusedVariables false
set_option linter.unusedSimpArgs false
set_option linter.unnecessarySimpa false
set_option linter.unusedSectionVars false
namespace Go.Win
open Go.Vc Go.Dec
def okW (w:api_Wide):Prop:=0≤w.Hi∧w.Hi<18446744073709551616∧0≤w.Lo∧w.Lo<18446744073709551616
def wv (w:api_Wide):Int:=w.Hi*18446744073709551616+w.Lo
def ofW (n:Int):api_Wide:=⟨n/18446744073709551616,n%18446744073709551616⟩
theorem wv_ofW (n:Int):wv (ofW n)=n:=by
 unfold wv ofW
 simp only
 omega
theorem ofW_ok {n:Int} (h0:0≤n) (h1:n<340282366920938463463374607431768211456):okW (ofW n):=by
 unfold okW ofW
 simp only
 omega
theorem wv_range {w:api_Wide} (h:okW w):0≤wv w∧wv w<340282366920938463463374607431768211456:=by
 unfold okW at h
 unfold wv
 omega
theorem add64 (x y c:Int) (hx:0≤x) (hy:0≤y) (h0:0≤c) (h1:c≤1):math_bits_Add64 x y c=some ((x+y+c)%18446744073709551616,(x+y+c)/18446744073709551616):=by
 unfold math_bits_Add64
 rw [decide_eq_true (⟨hx,hy,h0,h1⟩:0≤x∧0≤y∧0≤c∧c≤1)]
 rfl
theorem wide_add {a b:api_Wide} (ha:okW a) (hb:okW b):wide_Add a b=some (if wv a+wv b<340282366920938463463374607431768211456 then (ofW (wv a+wv b),true) else (⟨0,0⟩,false)):=by
 unfold okW at ha hb
 unfold wide_Add
 rw [add64 _ _ _ (by omega) (by omega) (by omega) (by omega)]
 simp only [Option.bind_some]
 rw [add64 _ _ _ (by omega) (by omega) (by omega) (by omega)]
 simp only [Option.bind_some]
 unfold wv
 by_cases h:a.Hi*18446744073709551616+a.Lo+(b.Hi*18446744073709551616+b.Lo)<340282366920938463463374607431768211456
 ·rw [if_pos h]
  have e:(a.Hi+b.Hi+(a.Lo+b.Lo+0)/18446744073709551616)/18446744073709551616=0:=by omega
  rw [e]
  simp only [bne_self_eq_false,cond_false]
  unfold ofW
  congr 3<;>omega
 ·rw [if_neg h]
  have e:((a.Hi+b.Hi+(a.Lo+b.Lo+0)/18446744073709551616)/18446744073709551616 !=0)=true:=by
   rw [bne_iff_ne];omega
  rw [e];rfl
theorem ref_wide_add:ref02_Add=wide_Add:=rfl
theorem wide_compare {a b:api_Wide} (ha:okW a) (hb:okW b):wide_Compare a b=if wv a<wv b then-1 else if wv a=wv b then 0 else 1:=by
 unfold okW at ha hb
 unfold wide_Compare wv
 by_cases h:(decide (a.Hi<b.Hi)||((a.Hi==b.Hi)&&decide (a.Lo<b.Lo)))=true
 ·rw [h,cond_true]
  simp only [Bool.or_eq_true,Bool.and_eq_true,decide_eq_true_eq,beq_iff_eq] at h
  rw [if_pos (by omega)]
 ·rw [Bool.not_eq_true] at h
  rw [h,cond_false]
  simp only [Bool.or_eq_false_iff,Bool.and_eq_false_iff,decide_eq_false_iff_not,beq_eq_false_iff_ne] at h
  by_cases h2:(a.Hi==b.Hi&&(a.Lo==b.Lo&&true))=true
  ·rw [h2,cond_true]
   simp only [Bool.and_eq_true,beq_iff_eq] at h2
   rw [if_neg (by omega),if_pos (by omega)]
  ·rw [Bool.not_eq_true] at h2
   rw [h2,cond_false]
   simp only [Bool.and_eq_false_iff,beq_eq_false_iff_ne,Bool.true_eq_false,or_false] at h2
   rw [if_neg (by omega),if_neg (by omega)]
end Go.Win
