/- The contracts: each function of the program does what its function on plain data says. Made by program. -/
import Derived.Test.YticmbokcamokpaaGreatCoh
import Derived.Test.YticmbokcamokpaaGreatCon12
import Derived.Test.YticmbokcamokpaaGreatCon13
set_option linter.unusedVariables false
set_option linter.unusedSimpArgs false
set_option linter.unnecessarySimpa false
set_option maxHeartbeats 40000000
set_option maxRecDepth 20000
namespace Go.Proofs.YticmbokcamokpaaGreat
open Go.Vc Go.Dec Go.Win
instance c_snapshot_state_i2 {b0_0:(List Int)}{b0_1:Int}{b0_3:Bool}{b1:A9}{r:(Bool×A9×(List Int))}:CF (A0M b0_0 b0_1 b0_3 b1=some r) 143 [.ptr 0 0, .ptr 1 0] [[.own 0,iI b0_1, .sb false, .sb b0_3],(List.append (I5 b1.Ap) (List.append (M9 b1.Ar) (List.append (N1 b1.Az) (List.append (P3 b1.Sum) (List.append (K9 b1.Au) (List.append (K4 b1.Av) (List.append (O6 b1.Bn) (iI b1.Bb.Now::(lF 1 (List.map (eI .i64) b1.Bb.Bo)::(List.append (I7 b1.Af) (lF 5 (List.map F8 b1.As.Ao)::(List.append (H9 b1.Aj) (I1 b1.Ab)))))))))))))] (some (5,1,List.map (eI .u8) b0_0)) (.tup []) [[.own 0,iI b0_1, .sb false, .sb r.1],(G4 r.2.1)] (some (5,1,List.map (eI .u8) r.2.2)):=⟨fun h=>C0 Tryz.func143 Tryz.call143 3 (au)⟩
end Go.Proofs.YticmbokcamokpaaGreat
