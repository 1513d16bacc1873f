/- The contracts: each function of the program does what its function on plain data says. Made by program. -/
import Derived.Test.YticmbokcamokpaaGreatCoh
set_option linter.unusedVariables false
set_option linter.unusedSimpArgs false
set_option linter.unnecessarySimpa false
set_option maxHeartbeats 40000000
set_option maxRecDepth 20000
namespace Go.Proofs.YticmbokcamokpaaGreat
open Go.Vc Go.Dec Go.Win
instance c_ref09_SameNumbers {p0:(List Int)}{p1:(List Int)}{r:Bool}:CF (A2n p0 p1=some r) 54 [lF 1 (List.map (eI .i64) p0),lF 1 (List.map (eI .i64) p1)] [] none (.sb r) [] none:=⟨fun h=>C0 Tryz.func54 Tryz.call54 1 (let E:List Nat×List Nat×((Int)->St):=([0,1,12],[],fun q=>[tM 13 (iI q)]);au)⟩
instance c_ref26_IDs {p0:(List A7)}{r:(List Int)}:CF (B4W p0=some r) 95 [lF 58 (List.map C6 p0)] [] none (lF 1 (List.map (eI .i64) r)) [] none:=⟨fun h=>C0 Tryz.func95 Tryz.call95 1 (let E:List Nat×List Nat×((((List Int)×Int))->St):=([6,7],[],fun q=>[tM 3 (.own 768),tM 8 (iI q.2),(.tok 768, .tok 2 1 (List.map (eI .i64) q.1))]);au)⟩
instance c_ref05_SameItems {p0:(List A8)}{p1:(List A8)}{r:Bool}:CF (A3W p0 p1=some r) 265 [lF 2 (List.map E8 p0),lF 2 (List.map E8 p1)] [] none (.sb r) [] none:=⟨fun h=>C0 Tryz.func265 Tryz.call265 1 (let E:List Nat×List Nat×((Int)->St):=([0,1,12],[],fun q=>[tM 13 (iI q)]);au)⟩
instance c_ref09_Same {p0:D0}{p1:D0}{r:Bool}:CF (B2X p0 p1=some r) 162 [.agg (M9 p0), .agg (M9 p1)] [] none (.sb r) [] none:=⟨fun h=>C0 Tryz.func162 Tryz.call162 1 (au)⟩
instance c_ref10_Same {p0:(List A3)}{p1:(List A3)}{r:Bool}:CF (A9T p0 p1=some r) 266 [lF 2 (List.map E1 p0),lF 2 (List.map E1 p1)] [] none (.sb r) [] none:=⟨fun h=>C0 Tryz.func266 Tryz.call266 1 (let E:List Nat×List Nat×((Int)->St):=([0,1,12],[],fun q=>[tM 13 (iI q)]);au)⟩
instance c_ref11_Same {p0:E4}{p1:E4}{r:Bool}:CF (B2Y p0 p1=some r) 163 [.agg (N1 p0), .agg (N1 p1)] [] none (.sb r) [] none:=⟨fun h=>C0 Tryz.func163 Tryz.call163 1 (au)⟩
instance c_ref12_Same {p0:F3}{p1:F3}{r:Bool}:CF (B2Z p0 p1=some r) 164 [.agg (P3 p0), .agg (P3 p1)] [] none (.sb r) [] none:=⟨fun h=>C0 Tryz.func164 Tryz.call164 1 (au)⟩
instance c_ref13_SameMarks {p0:(List A6)}{p1:(List A6)}{r:Bool}:CF (A3X p0 p1=some r) 267 [lF 7 (List.map C8 p0),lF 7 (List.map C8 p1)] [] none (.sb r) [] none:=⟨fun h=>C0 Tryz.func267 Tryz.call267 1 (let E:List Nat×List Nat×((Int)->St):=([0,1,12],[],fun q=>[tM 13 (iI q)]);au)⟩
instance c_ref13_Same {p0:D2}{p1:D2}{r:Bool}:CF (B20 p0 p1=some r) 165 [.agg (K9 p0), .agg (K9 p1)] [] none (.sb r) [] none:=⟨fun h=>C0 Tryz.func165 Tryz.call165 1 (au)⟩
instance c_ref14_Same {p0:D5}{p1:D5}{r:Bool}:CF (B21 p0 p1=some r) 166 [.agg (K4 p0), .agg (K4 p1)] [] none (.sb r) [] none:=⟨fun h=>C0 Tryz.func166 Tryz.call166 1 (au)⟩
instance c_ref15_SameWide {p0:(List A2)}{p1:(List A2)}{r:Bool}:CF (A7m p0 p1=some r) 268 [lF 2 (List.map O7 p0),lF 2 (List.map O7 p1)] [] none (.sb r) [] none:=⟨fun h=>C0 Tryz.func268 Tryz.call268 1 (let E:List Nat×List Nat×((Int)->St):=([0,1,12],[],fun q=>[tM 13 (iI q)]);au)⟩
instance c_ref15_Same {p0:E2}{p1:E2}{r:Bool}:CF (B22 p0 p1=some r) 167 [.agg (O6 p0), .agg (O6 p1)] [] none (.sb r) [] none:=⟨fun h=>C0 Tryz.func167 Tryz.call167 1 (au)⟩
instance c_ref16_Same {p0:F4}{p1:F4}{r:Bool}:CF (B23 p0 p1=some r) 168 [.agg [iI p0.Now,lF 1 (List.map (eI .i64) p0.Bo)], .agg [iI p1.Now,lF 1 (List.map (eI .i64) p1.Bo)]] [] none (.sb r) [] none:=⟨fun h=>C0 Tryz.func168 Tryz.call168 1 (au)⟩
instance c_ref17_Same {p0:C2}{p1:C2}{r:Bool}:CF (B24 p0 p1=some r) 169 [.agg (I7 p0), .agg (I7 p1)] [] none (.sb r) [] none:=⟨fun h=>C0 Tryz.func169 Tryz.call169 1 (au)⟩
instance c_ref18_Same {p0:B5}{p1:B5}{r:Bool}:CF (B25 p0 p1=some r) 269 [.agg (F8 p0), .agg (F8 p1)] [] none (.sb r) [] none:=⟨fun h=>C0 Tryz.func269 Tryz.call269 1 (let E:List Nat×List Nat×((Int)->St):=([2,3,43],[1,2],fun q=>[tM 44 (iI q)]);au)⟩
instance c_ref19_Same {p0:E7}{p1:E7}{r:Bool}:CF (B26 p0 p1=some r) 170 [.agg [lF 5 (List.map F8 p0.Ao)], .agg [lF 5 (List.map F8 p1.Ao)]] [] none (.sb r) [] none:=⟨fun h=>C0 Tryz.func170 Tryz.call170 1 (let E:List Nat×List Nat×((Int)->St):=([2,3,15],[1,2],fun q=>[tM 16 (iI q)]);au)⟩
instance c_ref20_Same {p0:C1}{p1:C1}{r:Bool}:CF (B27 p0 p1=some r) 171 [.agg (H9 p0), .agg (H9 p1)] [] none (.sb r) [] none:=⟨fun h=>C0 Tryz.func171 Tryz.call171 1 (let E:List Nat×List Nat×((Int)->St):=([2,3,36],[1,2],fun q=>[tM 37 (iI q)]);au)⟩
instance c_ref21_Same {p0:D4}{p1:D4}{r:Bool}:CF (B28 p0 p1=some r) 331 [.agg [iI p0.N,lF 3 (List.map D9 p0.Ae)], .agg [iI p1.N,lF 3 (List.map D9 p1.Ae)]] [] none (.sb r) [] none:=⟨fun h=>C0 Tryz.func331 Tryz.call331 1 (let E:List Nat×List Nat×((Int)->St):=([2,3,22],[1,2],fun q=>[tM 23 (iI q)]);au)⟩
instance c_ref22_Same {p0:(List B1)}{p1:(List B1)}{r:Bool}:CF (B29 p0 p1=some r) 270 [lF 5 (List.map D1 p0),lF 5 (List.map D1 p1)] [] none (.sb r) [] none:=⟨fun h=>C0 Tryz.func270 Tryz.call270 1 (let E:List Nat×List Nat×((Int)->St):=([0,1,12],[],fun q=>[tM 13 (iI q)]);au)⟩
instance c_ref23_Same {p0:C3}{p1:C3}{r:Bool}:CF (B3a p0 p1=some r) 172 [.agg (I1 p0), .agg (I1 p1)] [] none (.sb r) [] none:=⟨fun h=>C0 Tryz.func172 Tryz.call172 1 (au)⟩
instance c_ref25_Same {p0:A9}{p1:A9}{r:Bool}:CF (A9V p0 p1=some r) 96 [.agg (G4 p0), .agg (G4 p1)] [] none (.sb r) [] none:=⟨fun h=>C0 Tryz.func96 Tryz.call96 1 (au)⟩
instance c_ref26_Same {p0:(List A7)}{p1:(List A7)}{r:Bool}:CF (B3b p0 p1=some r) 56 [lF 58 (List.map C6 p0),lF 58 (List.map C6 p1)] [] none (.sb r) [] none:=⟨fun h=>C0 Tryz.func56 Tryz.call56 1 (let E:List Nat×List Nat×((Int)->St):=([0,1,13],[],fun q=>[tM 14 (iI q)]);au)⟩
instance c_ref28_Same {p0:B4}{p1:B4}{r:Bool}:CF (A9X p0 p1=some r) 17 [.agg [iI p0.Now,iI p0.Be,lF 58 (List.map C6 p0.Ai)], .agg [iI p1.Now,iI p1.Be,lF 58 (List.map C6 p1.Ai)]] [] none (.sb r) [] none:=⟨fun h=>C0 Tryz.func17 Tryz.call17 1 (au)⟩
end Go.Proofs.YticmbokcamokpaaGreat
