/- Pu: chapter 08: shifts of wide numbers, sums with weights that halve. -/
import Derived.Test.YtmipeaidieflmaaGreatPuPolys
set_option linter.unusedVariables false
set_option linter.unusedSimpArgs false
set_option linter.unnecessarySimpa false
set_option linter.unusedSectionVars false
namespace Go.Win
open Go.Vc Go.Dec
theorem bla (f:Nat): ∀x:Nat,x<2^f→x≠0→1≤Lib.bitLenAux f x∧2^(Lib.bitLenAux f x-1)≤x∧x<2^Lib.bitLenAux f x:=by
 induction f with
 |zero=>intro x h h0;simp at h;exact absurd h h0
 |succ f ih=>
  intro x h h0
  unfold Lib.bitLenAux
  rw [if_neg h0]
  by_cases h1:x/2=0
  ·have:x=1:=by omega
   subst this
   have e:Lib.bitLenAux f (1/2)=0:=by cases f<;>simp [Lib.bitLenAux]
   rw [e]
   simp
  ·have:=ih (x/2) (by rw [Nat.pow_succ] at h;omega) h1
   obtain ⟨b1,b2,b3⟩:=this
   generalize Lib.bitLenAux f (x/2)=b at*
   refine ⟨by omega, ?_, ?_⟩
   ·obtain ⟨c,rfl⟩: ∃c,b=c+1:=⟨b-1,by omega⟩
    rw [show 1+(c+1)-1=c+1 by omega,Nat.pow_succ]
    rw [show c+1-1=c by omega] at b2
    omega
   ·rw [Nat.add_comm,Nat.pow_succ]
    omega
theorem bitLen_bounds {x:Int} (h0:0<x) (h1:x<18446744073709551616): ∃b:Nat,math_bits_Len64 x=some (b:Int)∧1≤b∧b≤64∧(2:Int)^(b-1)≤x∧x<2^b:=by
 obtain ⟨n,rfl⟩:=Int.eq_ofNat_of_zero_le (by omega:0≤x)
 have hb:=bla 64 n (by have:(2:Nat)^64=18446744073709551616:=by decide
                       omega) (by omega)
 refine ⟨Lib.bitLen n, ?_,hb.1, ?_, ?_, ?_⟩
 ·unfold math_bits_Len64
  rw [ck_pos (by rw [decide_eq_true_eq];omega),Int.toNat_natCast]
 ·have:Lib.bitLen n-1<64:=by
   refine (Nat.pow_lt_pow_iff_right (a:=2) (by decide)).1 (Nat.lt_of_le_of_lt hb.2.1 ?_)
   have:(2:Nat)^64=18446744073709551616:=by decide
   omega
  omega
 ·have:=hb.2.1
  exact_mod_cast this
 ·have:=hb.2.2
  exact_mod_cast this
theorem ishl_eq (x:Int) {k:Nat} (hk:k≤64):ishl .u64 x (k:Int)=(x*2^k)%18446744073709551616:=by
 show IntKind.u64.wrap (x*2^(min (k:Int).toNat IntKind.u64.bits))=_
 have:min (k:Int).toNat IntKind.u64.bits=k:=by
  have hbits:IntKind.u64.bits=64:=rfl
  rw [hbits,Int.toNat_natCast];omega
 rw [this,IntKind.wrap_u64]
theorem ishr_eq (x:Int) {k:Nat} (hk:k≤64):ishr .u64 x (k:Int)=x/2^k:=by
 show x.fdiv (2^(min (k:Int).toNat IntKind.u64.bits))=_
 have:min (k:Int).toNat IntKind.u64.bits=k:=by
  have hbits:IntKind.u64.bits=64:=rfl
  rw [hbits,Int.toNat_natCast];omega
 rw [this,Int.fdiv_eq_ediv_of_nonneg _ (Int.le_of_lt (Int.pow_pos (by decide)))]
theorem pow_pos' (k:Nat):(0:Int)<2^k:=Int.pow_pos (by decide)
end Go.Win
