/- The contracts of what a law adds. Made by program. -/
import Derived.Test.YticmbokcamokpaaGreatCon30
import Derived.Test.YticmbokcamokpaaGreatCon39
import Derived.Test.YticmbokcamokpaaGreatCon7
import Derived.Test.YticmbokcamokpaaGreatCoh
import Derived.Test.YticmbokcamokpaaGreatWinA
import Derived.Test.YticmbokcamokpaaGreatCon13
import Derived.Test.YticmbokcamokpaaGreatCon40
import Derived.Test.YticmbokcamokpaaGreatCon5
import Derived.Test.YticmbokcamokpaaGreatCon6
set_option linter.unusedVariables false
set_option linter.unusedSimpArgs false
set_option linter.unnecessarySimpa false
set_option maxHeartbeats 40000000
set_option maxRecDepth 20000
namespace Go.Proofs.YticmbokcamokpaaGreat
open Go.Vc Go.Dec Go.Win
instance c_tape_Tape_Ratio_i1 {b0_0:(List Int)}{b0_1:Int}{b0_3:Bool}{b1:A4}{r:(Int×Bool×A4)}:CF (A1M b0_0 b0_1 b0_3 b1=some r) 91 [.ptr 0 0, .ptr 1 0] [[lF 1 (List.map (eI .u8) b0_0),iI b0_1, .sb true, .sb b0_3], [iI b1.Bw,iI b1.Br]] none (.tup []) [[lF 1 (List.map (eI .u8) b0_0),iI r.1, .sb true, .sb r.2.1], [iI r.2.2.Bw,iI r.2.2.Br]] none:=⟨fun h=>C0 Tryz.func91 Tryz.call91 3 (au)⟩
instance c_codec_reply_i1 {b0_0:(List Int)}{b0_1:Int}{b0_3:Bool}{b1_0:Int}{b1_1:Int}{b1_2:Int}{b1_3:Int}{b1_4:Int}{b1_5:Int}{b1_6:Int}{b1_8:Int}{b1_9:Int}{b1_10:Int}{b1_11:Int}{r:(Int×Bool×Int×Int×Int×Int×Int×Int×Int×Int×Int×Int×Int×(List Int)×(List Int)×(List Int))}:CF (B5U b0_0 b0_1 b0_3 b1_0 b1_1 b1_2 b1_3 b1_4 b1_5 b1_6 b1_8 b1_9 b1_10 b1_11=some r) 53 [.ptr 0 0, .ptr 1 0] [[lF 1 (List.map (eI .u8) b0_0),iI b0_1, .sb true, .sb b0_3], [iI b1_0,iI b1_1,iI b1_2,iI b1_3,iI b1_4,iI b1_5,iI b1_6, .nilS,iU b1_8,iU b1_9,iU b1_10,iU b1_11, .nilS, .nilS]] none (.tup []) [[lF 1 (List.map (eI .u8) b0_0),iI r.1, .sb true, .sb r.2.1], [iI r.2.2.1,iI r.2.2.2.1,iI r.2.2.2.2.1,iI r.2.2.2.2.2.1,iI r.2.2.2.2.2.2.1,iI r.2.2.2.2.2.2.2.1,iI r.2.2.2.2.2.2.2.2.1, .own 0,iU r.2.2.2.2.2.2.2.2.2.1,iU r.2.2.2.2.2.2.2.2.2.2.1,iU r.2.2.2.2.2.2.2.2.2.2.2.1,iU r.2.2.2.2.2.2.2.2.2.2.2.2.1,lF 1 (List.map (eI .i64) r.2.2.2.2.2.2.2.2.2.2.2.2.2.1),lF 1 (List.map (eI .u8) r.2.2.2.2.2.2.2.2.2.2.2.2.2.2.1)]] (some (2,1,List.map (eI .i64) r.2.2.2.2.2.2.2.2.2.2.2.2.2.2.2)):=⟨fun h=>C0 Tryz.func53 Tryz.call53 3 (au)⟩
instance c_codec_DecodeReply {p0:(List Int)}{r:(F5×Int)}:CF (A7Q p0=some r) 15 [lF 1 (List.map (eI .u8) p0)] [] none (.tup [.agg (A0U r.1),iI r.2]) [] none:=⟨fun h=>C0 Tryz.func15 Tryz.call15 1 (au)⟩
instance c_ref27_List {p0:(List Int)}{r:(List Int)}:CF (A46 p0=some r) 93 [lF 1 (List.map (eI .i64) p0)] [] none (lF 1 (List.map (eI .i64) r)) [] none:=⟨fun h=>C0 Tryz.func93 Tryz.call93 1 (au)⟩
instance c_ref27_Bytes {p0:(List Int)}{r:(List Int)}:CF (A6a p0=some r) 94 [lF 1 (List.map (eI .u8) p0)] [] none (lF 1 (List.map (eI .i64) r)) [] none:=⟨fun h=>C0 Tryz.func94 Tryz.call94 1 (let E:List Nat×List Nat×((((List Int)×Int))->St):=([9,10],[],fun q=>[tM 3 (.own 259),tM 11 (iI q.2),(.tok 259, .tok 2 1 (List.map (eI .i64) q.1))]);au)⟩
instance c_ref27_Reply {p0:F5}{r:(List Int)}:CF (A0e p0=some r) 55 [.agg (A0U p0)] [] none (lF 1 (List.map (eI .i64) r)) [] none:=⟨fun h=>C0 Tryz.func55 Tryz.call55 1 (au)⟩
instance c_ref27_SameReply {p0:F5}{p1:F5}{r:Bool}:CF (H2 p0 p1=some r) 16 [.agg (A0U p0), .agg (A0U p1)] [] none (.sb r) [] none:=⟨fun h=>C0 Tryz.func16 Tryz.call16 1 (au)⟩
theorem B8c {a:(List B6)}{b:B6}{r:Bool}(h:A5w a b=some r):E9 Tryz.prog 3 [lF 17 (List.map E6 a), .agg (E6 b)] [] (.sb r) []:=
 C0 Tryz.func3 Tryz.call3 1 (au)
end Go.Proofs.YticmbokcamokpaaGreat
