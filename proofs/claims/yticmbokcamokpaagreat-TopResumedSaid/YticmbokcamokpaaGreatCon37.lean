/- The contracts: each function of the program does what its function on plain data says. Made by program. -/
import Derived.Test.YticmbokcamokpaaGreatCoh
import Derived.Test.YticmbokcamokpaaGreatCon4
import Derived.Test.YticmbokcamokpaaGreatCon12
import Derived.Test.YticmbokcamokpaaGreatCon15
import Derived.Test.YticmbokcamokpaaGreatCon36
set_option linter.unusedVariables false
set_option linter.unusedSimpArgs false
set_option linter.unnecessarySimpa false
set_option maxHeartbeats 40000000
set_option maxRecDepth 20000
namespace Go.Proofs.YticmbokcamokpaaGreat
open Go.Vc Go.Dec Go.Win
instance c_snapshot_Decode {p0:(List Int)}{r:(B4×Int)}:CF (A13 p0=some r) 30 [lF 1 (List.map (eI .u8) p0)] [] none (.tup [.agg [iI r.1.Now,iI r.1.Be,lF 58 (List.map C6 r.1.Ai)],iI r.2]) [] none:=⟨fun h=>C0 Tryz.func30 Tryz.call30 1 (⟨none,⟨none,⟨[iI (p0.length:Int)],An (lenS (eI .u8) p0) (cD h (fun g1 h=>lf) (fun g1 h=>⟨none,⟨none,⟨none,bC h fun a g h=>⟨(CK.gen [(771,0,4),(513,0,3)] none _ _ none),An (C5.wk ((@c_snapshot_whole_i2 p0 0 0 0 a).pf g) zz) (An rfl (An rfl (⟨none,cD h (fun g2 h=>lf) (fun g2 h=>⟨none,bC h fun i j h=>⟨cK (An (cW ((@c_tape_Read p0 a.1 i).pf j) zz) (r1 (⟨none,kC h fun b h=>bC h fun c d h=>⟨none,An (fun g3=>⟨[iI (p0.length:Int)],An (lenS (eI .u8) p0) (An (fun g4=>An (kA (oD (gT (nE (oR g3 g4)) b))) (⟨cK (An (cW ((@c_codec_Sum (p0.take (a.1).toNat) c).pf (gdT (nE (oR g3 g4)) d)) (An ff (An lE trivial))) (r1 (An (fun g5=>have h:=cT (oR (oR g3 g4) g5) h;lf) (fun g5=>have h:=cF (oR (oR g3 g4) g5) h;⟨none,bC h fun e f h=>⟨cK (An (cW ((@c_snapshot_Validate (B4.mk a.2.2.1 a.2.2.2.1 a.2.2.2.2) e).pf f) zz) (r1 (⟨none,cD h (fun g6 h=>lf) (fun g6 h=>lf)⟩)))⟩⟩))))⟩)) (fun g4=>have h:=cT (oL (oR g3 g4)) h;lf))⟩) (fun g3=>have h:=cT (oL (oL g3)) h;lf)⟩⟩)))⟩⟩)⟩)))⟩⟩⟩⟩))⟩⟩⟩)⟩
end Go.Proofs.YticmbokcamokpaaGreat
