/- Pu: codes of numbers: bytes, and that they are read back. -/
import Derived.Test.YtmipeaidieflmaaGreatPu0
set_option linter.unusedVariables false
set_option linter.unusedSimpArgs false
set_option linter.unnecessarySimpa false
set_option linter.unusedSectionVars false
namespace Go.Win
open Go.Vc Go.Dec
def cb (u:Nat):List Int:=if u<128 then [(u:Int)] else ((128+u%128:Nat):Int)::cb (u/128)
termination_by u
decreasing_by omega
theorem cb_lt {u:Nat} (h:u<128):cb u= [(u:Int)]:=by rw [cb,if_pos h]
theorem cb_ge {u:Nat} (h:128≤u):cb u=((128+u%128:Nat):Int)::cb (u/128):=by rw [cb,if_neg (by omega)]
theorem cb_len (u:Nat):1≤(cb u).length:=by
 by_cases h:u<128
 ·rw [cb_lt h];simp
 ·rw [cb_ge (by omega)];simp
def zz (n:Int):Nat:=if 0≤n then (2*n).toNat else (-2*n-1).toNat
theorem zz_lt {n:Int} (h:wfI .i64 n):zz n<2^64:=by
 simp [wfI,Lit.wf,IntKind.min,IntKind.max,IntKind.signed,IntKind.bits] at h
 unfold zz
 split<;>omega
def code (n:Int):List Int:=cb (zz n)
def wr (ns:List Int):List Int:=ns.flatMap code
theorem wr_cons (n:Int) (ns:List Int):wr (n::ns)=code n++wr ns:=rfl
theorem wr_append (a b:List Int):wr (a++b)=wr a++wr b:=List.flatMap_append
def wfNs (ns:List Int):Prop:= ∀n∈ns,wfI .i64 n
end Go.Win
