/- The contracts: each function of the program does what its function on plain data says. Made by program. -/
import Derived.Test.YticmbokcamokpaaGreatCoh
import Derived.Test.YticmbokcamokpaaGreatCon3
import Derived.Test.YticmbokcamokpaaGreatCon4
set_option linter.unusedVariables false
set_option linter.unusedSimpArgs false
set_option linter.unnecessarySimpa false
set_option maxHeartbeats 40000000
set_option maxRecDepth 20000
namespace Go.Proofs.YticmbokcamokpaaGreat
open Go.Vc Go.Dec Go.Win
theorem B7X {a:Int}{r:Int}(h:B8X a=r):E9 Tryz.prog 352 [iI a] [] (iU r) []:=
 C0 Tryz.func352 Tryz.call352 1 (au)
instance:CC 352 (type_of% @B7X):=⟨@B7X⟩
theorem B5P {a:Int}{b:Int}{r:(Bool×A2)}(h:B5z a b=r):E9 Tryz.prog 308 [iI a,iI b] [] (.tup [.sb r.1, .agg [iU r.2.Hi,iU r.2.Lo]]) []:=
 C0 Tryz.func308 Tryz.call308 1 (au)
instance:CC 308 (type_of% @B5P):=⟨@B5P⟩
theorem B7e {a:Int}{b:Int}{c:Int}{d:Int}{r:Int}(h:C2f a b c d=r):E9 Tryz.prog 239 [iI a,iI b,iI c,iI d] [] (iI r) []:=
 C0 Tryz.func239 Tryz.call239 1 (au)
instance:CC 239 (type_of% @B7e):=⟨@B7e⟩
instance c_ratio_Compare {a:A4}{b:A4}{r:Int}:CF (A5B a b=some r) 136 [.agg [iI a.Bw,iI a.Br], .agg [iI b.Bw,iI b.Br]] [] none (iI r) [] none:=⟨fun h=>C0 Tryz.func136 Tryz.call136 1 (au)⟩
instance c_bounds_Valid {a:C9}{r:Bool}:CF (A6s a=some r) 60 [.agg (R2 a)] [] none (.sb r) [] none:=⟨fun h=>C0 Tryz.func60 Tryz.call60 1 (au)⟩
end Go.Proofs.YticmbokcamokpaaGreat
