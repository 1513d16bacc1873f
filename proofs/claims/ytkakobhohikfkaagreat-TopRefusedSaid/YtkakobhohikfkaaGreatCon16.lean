/- The contracts: each function of the program does what its function on plain data says. Made by program. -/
import Derived.Test.YtkakobhohikfkaaGreatCoh
set_option linter.unusedVariables false
set_option linter.unusedSimpArgs false
set_option linter.unnecessarySimpa false
set_option maxHeartbeats 40000000
set_option maxRecDepth 20000
namespace Go.Proofs.YtkakobhohikfkaaGreat
open Go.Vc Go.Dec Go.Win
instance c_made_Mod {p0:Int}{p1:Int}{r:Int}:CF (P2 p0 p1=some r) 29 [iI p0,iI p1] [] none (iI r) [] none:=⟨fun h=>C0 Tryz.func29 Tryz.call29 1 (au)⟩
instance c_made_Int {p0:Int}{p1:Int}{r:Int}:CF (T5 p0 p1=some r) 26 [iI p0,iI p1] [] none (iI r) [] none:=⟨fun h=>C0 Tryz.func26 Tryz.call26 1 (au)⟩
instance c_made_Gap {p0:Int}{p1:Int}{r:Int}:CF (B45 p0 p1=some r) 52 [iI p0,iI p1] [] none (iI r) [] none:=⟨fun h=>C0 Tryz.func52 Tryz.call52 1 (au)⟩
instance c_made_Value {p0:Int}{r:Int}:CF (B1m p0=some r) 53 [iI p0] [] none (iI r) [] none:=⟨fun h=>C0 Tryz.func53 Tryz.call53 1 (au)⟩
theorem B3H {a:(List Int)}{r:V9}(h:B8H a=r):E5 Tryz.prog 48 [lF 1 (List.map (eI .i64) a)] [] (.ptr 0 0) [[lF 1 (List.map (eI .i64) r.L),iI r.At]]:=
 C0 Tryz.func48 Tryz.call48 1 lf
instance:CC 48 (type_of% @B3H):=⟨@B3H⟩
instance c_made_Tape_Next {a:V9}{p1:Int}{r:(Int×V9)}:CF (A5v a p1=some r) 50 [.ptr 0 0,iI p1] [[lF 1 (List.map (eI .i64) a.L),iI a.At]] none (iI r.1) [[lF 1 (List.map (eI .i64) r.2.L),iI r.2.At]] none:=⟨fun h=>C0 Tryz.func50 Tryz.call50 2 (au)⟩
end Go.Proofs.YtkakobhohikfkaaGreat
