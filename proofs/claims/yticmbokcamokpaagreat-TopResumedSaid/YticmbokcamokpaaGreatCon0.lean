/- The contracts: each function of the program does what its function on plain data says. Made by program. -/
import Derived.Test.YticmbokcamokpaaGreatCoh
set_option linter.unusedVariables false
set_option linter.unusedSimpArgs false
set_option linter.unnecessarySimpa false
set_option maxHeartbeats 40000000
set_option maxRecDepth 20000
namespace Go.Proofs.YticmbokcamokpaaGreat
open Go.Vc Go.Dec Go.Win
instance c_made_Mod {p0:Int}{p1:Int}{r:Int}:CF (S8 p0 p1=some r) 38 [iI p0,iI p1] [] none (iI r) [] none:=⟨fun h=>C0 Tryz.func38 Tryz.call38 1 (au)⟩
instance c_made_Int {p0:Int}{p1:Int}{r:Int}:CF (A3a p0 p1=some r) 37 [iI p0,iI p1] [] none (iI r) [] none:=⟨fun h=>C0 Tryz.func37 Tryz.call37 1 (au)⟩
instance c_made_Gap {p0:Int}{p1:Int}{r:Int}:CF (C0B p0 p1=some r) 40 [iI p0,iI p1] [] none (iI r) [] none:=⟨fun h=>C0 Tryz.func40 Tryz.call40 1 (au)⟩
instance c_made_Value {p0:Int}{r:Int}:CF (B2P p0=some r) 41 [iI p0] [] none (iI r) [] none:=⟨fun h=>C0 Tryz.func41 Tryz.call41 1 (au)⟩
theorem B5b {a:(List Int)}{r:V4}(h:B6C a=r):E9 Tryz.prog 34 [lF 1 (List.map (eI .i64) a)] [] (.ptr 0 0) [[lF 1 (List.map (eI .i64) r.L),iI r.At]]:=
 C0 Tryz.func34 Tryz.call34 1 (au)
instance:CC 34 (type_of% @B5b):=⟨@B5b⟩
instance c_made_Tape_Next {a:V4}{p1:Int}{r:(Int×V4)}:CF (A21 a p1=some r) 36 [.ptr 0 0,iI p1] [[lF 1 (List.map (eI .i64) a.L),iI a.At]] none (iI r.1) [[lF 1 (List.map (eI .i64) r.2.L),iI r.2.At]] none:=⟨fun h=>C0 Tryz.func36 Tryz.call36 2 (au)⟩
end Go.Proofs.YticmbokcamokpaaGreat
