/- Pu: chapter 27: reading and writing one number. -/
import Derived.Test.YtmipeaidieflmaaGreatPuCode
import Derived.Test.YtmipeaidieflmaaGreatPuHalves
import Derived.Test.YtmipeaidieflmaaGreatWin
import Derived.Laws.BitsLemmas
set_option linter.unusedVariables false
set_option linter.unusedSimpArgs false
set_option linter.unnecessarySimpa false
set_option linter.unusedSectionVars false
namespace Go.Win
open Go.Vc Go.Dec
theorem or128_fin: ∀n:Fin 256,ior .u8 (n.1:Int) 128=((128+n.1%128:Nat):Int):=by decide+kernel
theorem or128 {x:Nat} (h:x≤255):ior .u8 (x:Int) 128=((128+x%128:Nat):Int):=or128_fin ⟨x,by omega⟩
theorem and_mask {v m:Nat} (hv:v<18446744073709551616) (hm:m≤63):iand .u64 (v:Int) ((2^m-1:Nat):Int)=((v%2^m:Nat):Int):=by
 show IntKind.u64.wrap _=_
 have hbits:IntKind.u64.bits=64:=rfl
 have hp:(2:Nat)^m≤2^63:=Nat.pow_le_pow_right (by decide) hm
 rw [hbits,IntKind.wrap_u64,BitVec.toNat_and,BitVec.toNat_ofInt,BitVec.toNat_ofInt]
 have e1:((((v:Int))%((2^64:Nat):Int)).toNat)=v:=by omega
 have e2:(((((2^m-1:Nat):Int))%((2^64:Nat):Int)).toNat)=2^m-1:=by omega
 rw [e1,e2,Nat.and_two_pow_sub_one_eq_mod]
 have:=Nat.mod_lt v (Nat.two_pow_pos m)
 omega
theorem and127' {v:Nat} (hv:v<18446744073709551616):iand .u64 (v:Int) 127=((v%128:Nat):Int):=and_mask (m:=7) hv (by decide)
theorem not64 {v:Nat} (hv:v<18446744073709551616):inot .u64 (v:Int)=((18446744073709551615-v:Nat):Int):=by
 show IntKind.u64.wrap _=_
 have hbits:IntKind.u64.bits=64:=rfl
 rw [hbits,IntKind.wrap_u64]
 have e:BitVec.ofInt 64 (if IntKind.u64.signed then-1 else IntKind.u64.max)=BitVec.allOnes 64:=by decide
 rw [e,BitVec.allOnes_xor,BitVec.toNat_not,BitVec.toNat_ofInt]
 omega
theorem u8_wrap (n:Int):IntKind.u8.wrap n=n%256:=IntKind.wrap_u8 n
theorem cb_ten {u:Nat}: ∀k,1≤k→u<128^k→(cb u).length≤k:=by
 intro k
 induction k generalizing u with
 |zero=>intro h;omega
 |succ k ih=>
  intro _ h
  by_cases h1:u<128
  ·rw [cb_lt h1];simp
  ·rw [cb_ge (by omega),List.length_cons]
   have hk:1≤k:=by
    rcases Nat.eq_zero_or_pos k with h0|h0
    ·subst h0;simp at h;omega
    ·exact h0
   have:=ih (u:=u/128) hk (by rw [Nat.pow_succ] at h;omega)
   omega
theorem code_ten {n:Int} (h:wfI .i64 n):(code n).length≤10:=by
 refine cb_ten 10 (by decide) ?_
 have:=zz_lt h
 have e:(128:Nat)^10=1180591620717411303424:=by decide
 omega
theorem append_loop: ∀(u:Nat) (v:List Int),u<18446744073709551616→v.length+(cb u).length≤1099511627776→
  tape_Append_i3_l3 v u=some (v++cb u)∧ref27_Append_l3 u v=some (v++cb u):=by
 intro u
 induction u using Nat.strongRecOn with
 |_ u ih=>
  intro v hu hl
  have hcl:=cb_len u
  by_cases h:u<128
  ·have e1:IntKind.u8.wrap (u:Int)=(u:Int):=by rw [u8_wrap];omega
   rw [cb_lt h]
   unfold tape_Append_i3_l3 ref27_Append_l3
   constructor
   ·refine loop_inr ?_
    unfold tape_Append_i3_l3s
    simp only []
    rw [decide_eq_false (by omega),cond_false,ck_pos (by rw [decide_eq_true_eq,List.length_singleton];omega),e1];rfl
   ·refine loop_inr ?_
    unfold ref27_Append_l3s
    simp only []
    rw [decide_eq_false (by omega),cond_false,ck_pos (by rw [decide_eq_true_eq,List.length_singleton];omega),e1];rfl
  ·have e1:ior .u8 (IntKind.u8.wrap (u:Int)) 128=((128+u%128:Nat):Int):=by
    rw [u8_wrap,show (u:Int)%256=((u%256:Nat):Int) by omega,or128 (by omega)]
    congr 2
    omega
   have e2:ior .u8 (IntKind.u8.wrap (iand .u64 (u:Int) 127)) 128=((128+u%128:Nat):Int):=by
    rw [and127' hu,u8_wrap,show ((u%128:Nat):Int)%256=((u%128:Nat):Int) by omega,or128 (by omega)]
    congr 2
    omega
   have e3:ishr .u64 (u:Int) 7=((u/128:Nat):Int):=by
    rw [show (7:Int)=((7:Nat):Int) from rfl,ishr_eq _ (by omega)]
    omega
   have hc:cb u=((128+u%128:Nat):Int)::cb (u/128):=cb_ge (by omega)
   rw [hc,List.length_cons] at hl
   obtain ⟨r1,r2⟩:=ih (u/128) (by omega) (v++ [((128+u%128:Nat):Int)]) (by omega) (by rw [List.length_append,List.length_singleton];omega)
   have e4:v++cb u=(v++ [((128+u%128:Nat):Int)])++cb (u/128):=by rw [hc];simp
   rw [e4]
   constructor
   ·rw [←r1]
    refine loop_inl ?_
    unfold tape_Append_i3_l3s
    simp only []
    rw [decide_eq_true (by omega),cond_true,e1,ck_pos (by rw [decide_eq_true_eq,List.length_singleton];omega),e3]
   ·rw [←r2]
    refine loop_inl ?_
    unfold ref27_Append_l3s
    simp only []
    rw [decide_eq_true (by omega),cond_true,e2,ck_pos (by rw [decide_eq_true_eq,List.length_singleton];omega),e3]
theorem wf_i64 {n:Int}:wfI .i64 n↔ -9223372036854775808≤n∧n≤9223372036854775807:=by
 simp [wfI,Lit.wf,IntKind.min,IntKind.max,IntKind.signed,IntKind.bits]
theorem zig_neg {n:Int} (h:wfI .i64 n) (hn:n<0):inot .u64 (ishl .u64 (wu64 n) 1)=(zz n:Int):=by
 have:=wf_i64.1 h
 have e:ishl .u64 (wu64 n) 1=(((2*n)%18446744073709551616).toNat:Int):=by
  rw [show (1:Int)=((1:Nat):Int) from rfl,ishl_eq _ (by omega),wu64_eq]
  omega
 rw [e,not64 (by omega)]
 unfold zz
 rw [if_neg (by omega)]
 omega
theorem zig_pos {n:Int} (h:wfI .i64 n) (hn:0≤n):ishl .u64 (wu64 n) 1=(zz n:Int):=by
 have:=wf_i64.1 h
 rw [show (1:Int)=((1:Nat):Int) from rfl,ishl_eq _ (by omega),wu64_eq]
 unfold zz
 rw [if_pos hn]
 omega
theorem tape_append {v:List Int} {n:Int} (h:wfI .i64 n) (hl:v.length+(code n).length≤1099511627776):tape_Append_i3 v n=some (v++code n):=by
 have hz:=zz_lt h
 unfold tape_Append_i3 tape_Append_i3_j1
 by_cases hn:n<0
 ·rw [decide_eq_true hn,cond_true,zig_neg h hn]
  exact (append_loop _ v (by omega) hl).1
 ·rw [decide_eq_false hn,cond_false,zig_pos h (by omega)]
  exact (append_loop _ v (by omega) hl).1
theorem ref_append {v:List Int} {n:Int} (h:wfI .i64 n) (hl:v.length+(code n).length≤1099511627776):ref27_Append v n=some (v++code n):=by
 have hz:=zz_lt h
 unfold ref27_Append ref27_Append_j1
 have hk:decide ((([]:List Int).length+v.length)*1≤140737488355328)=true:=by rw [decide_eq_true_eq,List.length_nil];omega
 rw [List.nil_append]
 simp only [ck_pos hk]
 by_cases hn:n<0
 ·rw [decide_eq_true hn,cond_true,zig_neg h hn]
  exact (append_loop _ v (by omega) hl).2
 ·rw [decide_eq_false hn,cond_false,zig_pos h (by omega)]
  exact (append_loop _ v (by omega) hl).2
end Go.Win
