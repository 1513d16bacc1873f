/- Pu: chapter 08: sums and squares. -/
import Derived.Test.YtmipeaidieflmaaGreatPuWide
import Derived.Test.YtmipeaidieflmaaGreatPu09
set_option linter.unusedVariables false
set_option linter.unusedSimpArgs false
set_option linter.unnecessarySimpa false
set_option linter.unusedSectionVars false
namespace Go.Win
open Go.Vc Go.Dec
theorem andLow {x:Int} (h0:0≤x) (h1:x<18446744073709551616):((BitVec.ofInt IntKind.u64.bits x&&&BitVec.ofInt IntKind.u64.bits 4294967295).toNat:Int)=x%4294967296:=by
 obtain ⟨n,rfl⟩:=Int.eq_ofNat_of_zero_le h0
 have e:(BitVec.ofInt IntKind.u64.bits (n:Int)&&&BitVec.ofInt IntKind.u64.bits 4294967295).toNat=n%4294967296:=by
  have hb:IntKind.u64.bits=64:=rfl
  rw [hb,BitVec.toNat_and,BitVec.toNat_ofInt,BitVec.toNat_ofInt]
  have h2:(((n:Int)%((2^64:Nat):Int)).toNat)=n:=by omega
  have h3:((4294967295:Int)%((2^64:Nat):Int)).toNat=2^32-1:=by decide
  rw [h2,h3,Nat.and_two_pow_sub_one_eq_mod]
 rw [e]
 omega
theorem iand32 {x:Int} (h0:0≤x) (h1:x<18446744073709551616):iand .u64 x 4294967295=x%4294967296:=by
 show IntKind.u64.wrap _=_
 rw [andLow h0 h1,IntKind.wrap_u64];omega
theorem ishr32 (x:Int):ishr .u64 x 32=x/4294967296:=by
 show x.fdiv (2^(min (32:Int).toNat IntKind.u64.bits))=_
 have:(2:Int)^(min (32:Int).toNat IntKind.u64.bits)=4294967296:=by decide
 rw [this,Int.fdiv_eq_ediv_of_nonneg _ (by decide)]
theorem four (a b c d:Int):(a*4294967296+b)*(c*4294967296+d)=(a*c)*18446744073709551616+(a*d+b*c)*4294967296+b*d:=by
 grind
theorem bound32 {a b:Int} (ha:0≤a∧a<4294967296) (hb:0≤b∧b<4294967296):0≤a*b∧a*b≤18446744065119617025:=by
 refine ⟨Int.mul_nonneg ha.1 hb.1, ?_⟩
 have:=Int.mul_le_mul (show a≤4294967295 by omega) (show b≤4294967295 by omega) hb.1 (by decide)
 simpa using this
theorem mul64 {x y:Int} (hx:0≤x∧x<18446744073709551616) (hy:0≤y∧y<18446744073709551616):math_bits_Mul64 x y=(x*y/18446744073709551616,x*y%18446744073709551616):=by
 unfold math_bits_Mul64
 have e:=four (x/4294967296) (x%4294967296) (y/4294967296) (y%4294967296)
 rw [show x/4294967296*4294967296+x%4294967296=x by omega,show y/4294967296*4294967296+y%4294967296=y by omega] at e
 have bp:=bound32 (a:=x%4294967296) (b:=y%4294967296) (by omega) (by omega)
 have bq:=bound32 (a:=x/4294967296) (b:=y%4294967296) (by omega) (by omega)
 have br:=bound32 (a:=x%4294967296) (b:=y/4294967296) (by omega) (by omega)
 have bs:=bound32 (a:=x/4294967296) (b:=y/4294967296) (by omega) (by omega)
 congr 1
 ·rw [iand32 hx.1 hx.2,iand32 hy.1 hy.2,ishr32,ishr32]
  generalize x%4294967296*(y%4294967296)=p at*
  generalize x/4294967296*(y%4294967296)=q at*
  generalize x%4294967296*(y/4294967296)=r at*
  generalize x/4294967296*(y/4294967296)=s at*
  have w1: ∀n:Int,0≤n→n<18446744073709551616→wu64 n=n:=fun n h1 h2=>by rw [wu64_eq];omega
  simp only [ishr32]
  rw [w1 p (by omega) (by omega),w1 q (by omega) (by omega),w1 (q+p/4294967296) (by omega) (by omega),iand32 (by omega) (by omega),w1 r (by omega) (by omega),w1 ((q+p/4294967296)%4294967296+r) (by omega) (by omega),w1 s (by omega) (by omega),
   w1 (s+(q+p/4294967296)/4294967296) (by omega) (by omega),w1 _ (by omega) (by omega)]
  omega
theorem prod_nn {x y:Int} (hx:0≤x∧x<18446744073709551616) (hy:0≤y∧y<18446744073709551616):0≤x*y∧x*y<340282366920938463463374607431768211456:=by
 refine ⟨Int.mul_nonneg hx.1 hy.1, ?_⟩
 have:=Int.mul_le_mul (show x≤18446744073709551615 by omega) (show y≤18446744073709551615 by omega) hy.1 (by decide)
 omega
theorem product_eq {x y:Int} (hx:0≤x∧x<18446744073709551616) (hy:0≤y∧y<18446744073709551616):ref02_Product x y=ofW (x*y):=by
 unfold ref02_Product
 rw [mul64 hx hy]
 rfl
end Go.Win
