/- The contracts: each function of the program does what its function on plain data says. Made by program. -/
import Derived.Test.YtkakobhohikfkaaGreatCoh
import Derived.Test.YtkakobhohikfkaaGreatCon1
import Derived.Test.YtkakobhohikfkaaGreatCon4
import Derived.Test.YtkakobhohikfkaaGreatCon5
import Derived.Test.YtkakobhohikfkaaGreatCon6
set_option linter.unusedVariables false
set_option linter.unusedSimpArgs false
set_option linter.unnecessarySimpa false
set_option maxHeartbeats 40000000
set_option maxRecDepth 20000
namespace Go.Proofs.YtkakobhohikfkaaGreat
open Go.Vc Go.Dec Go.Win
instance c_synopsis_Validate {p0:A7}{r:Int}:CF (K1 p0=some r) 80 [.agg (F9 p0)] [] none (iI r) [] none:=⟨fun h=>C0 Tryz.func80 Tryz.call80 1 (au)⟩
instance c_math_bits_Sub64 {p0:Int}{p1:Int}{p2:Int}{r:(Int×Int)}:CF (O6 p0 p1 p2=some r) 320 [iU p0,iU p1,iU p2] [] none (.tup [iU r.1,iU r.2]) [] none:=⟨fun h=>C79 Tryz.func320 (by kernel_rfl) (by kernel_rfl) (by kernel_rfl) (by kernel_rfl) p0 p1 p2 r h⟩
theorem B5z {a:Int}{r:Int}(h:A0D a=r):E5 Tryz.prog 207 [iI a] [] (iU r) []:=
 C0 Tryz.func207 Tryz.call207 1 (⟨none,⟨none,cD h (fun b h=>lf) (fun b h=>lf)⟩⟩)
instance:CC 207 (type_of% @B5z):=⟨@B5z⟩
theorem A7S {a:A2}{r:Bool}(h:N9 a=r):E5 Tryz.prog 273 [.agg [iU a.Hi,iU a.Lo]] [] (.sb r) []:=
 C0 Tryz.func273 Tryz.call273 1 (⟨none,⟨none,⟨none,An (fun b=>(by cases h;exact (An (D4E (aR b rfl)) trivial))) (fun b=>(by cases h;exact (An (D4E (aL b)) trivial)))⟩⟩⟩)
instance:CC 273 (∀{p0a p0b:Int}{r:Bool},N9 ⟨p0a,p0b⟩=r->E5 Tryz.prog 273 [.agg [iU p0a,iU p0b]] [] (.sb r) []):=⟨fun h=>A7S h⟩
instance c_wide_Bits {a:A2}{r:Int}:CF (A7G a=some r) 274 [.agg [iU a.Hi,iU a.Lo]] [] none (iI r) [] none:=⟨fun h=>C0 Tryz.func274 Tryz.call274 1 (au)⟩
instance c_wide_bit {a:A2}{p1:Int}{r:Int}:CF (B8W a p1=some r) 322 [.agg [iU a.Hi,iU a.Lo],iI p1] [] none (iU r) [] none:=⟨fun h=>C0 Tryz.func322 Tryz.call322 1 (au)⟩
instance c_wide_Div {a:A2}{p1:A2}{r:(A2×A2×Bool)}:CF (A1Y a p1=some r) 267 [.agg [iU a.Hi,iU a.Lo], .agg [iU p1.Hi,iU p1.Lo]] [] none (.tup [.agg [iU r.1.Hi,iU r.1.Lo], .agg [iU r.2.1.Hi,iU r.2.1.Lo], .sb r.2.2]) [] none:=⟨fun h=>C0 Tryz.func267 Tryz.call267 1 (let E:List Nat×List Nat×(((Int×Int×Int×Int×Int))->St):=([2,3,4,5,7,8],[1,2,3,4],fun q=>[tM 9 (iI q.1),tB 513 [iU q.2.1,iU q.2.2.1],tB 514 [iU q.2.2.2.1,iU q.2.2.2.2]]);au)⟩
instance c_wide_Gcd {a:A2}{p1:A2}{r:A2}:CF (A5h a p1=some r) 206 [.agg [iU a.Hi,iU a.Lo], .agg [iU p1.Hi,iU p1.Lo]] [] none (.agg [iU r.Hi,iU r.Lo]) [] none:=⟨fun h=>C0 Tryz.func206 Tryz.call206 1 (let E:List Nat×List Nat×(((Int×Int×Int×Int))->St):=([2,3,4],[3],fun q=>[tB 1 [iU q.1,iU q.2.1],tB 2 [iU q.2.2.1,iU q.2.2.2]]);au)⟩
instance c_ratio_Valid {a:A5}{r:Bool}:CF (Y0 a=some r) 106 [.agg [iI a.Bu,iI a.Bp]] [] none (.sb r) [] none:=⟨fun h=>C0 Tryz.func106 Tryz.call106 1 (au)⟩
theorem A6r {a:Int}{r:A5}(h:A0w a=r):E5 Tryz.prog 35 [iI a] [] (.agg [iI r.Bu,iI r.Bp]) []:=
 C0 Tryz.func35 Tryz.call35 1 lf
instance:CC 35 (type_of% @A6r):=⟨@A6r⟩
instance c_registry_Valid {a:(List B0)}{p1:Int}{r:Bool}:CF (A0x a p1=some r) 108 [lF 58 (List.map C7 a),iI p1] [] none (.sb r) [] none:=⟨fun h=>C0 Tryz.func108 Tryz.call108 1 (let E:List Nat×List Nat×((Int)->St):=([0,19,20],[],fun q=>[tM 21 (iI q)]);au)⟩
end Go.Proofs.YtkakobhohikfkaaGreat
