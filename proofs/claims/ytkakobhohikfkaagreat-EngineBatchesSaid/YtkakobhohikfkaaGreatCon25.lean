/- The contracts: each function of the program does what its function on plain data says. Made by program. -/
import Derived.Test.YtkakobhohikfkaaGreatCoh
import Derived.Test.YtkakobhohikfkaaGreatCon7
set_option linter.unusedVariables false
set_option linter.unusedSimpArgs false
set_option linter.unnecessarySimpa false
set_option maxHeartbeats 40000000
set_option maxRecDepth 20000
namespace Go.Proofs.YtkakobhohikfkaaGreat
open Go.Vc Go.Dec Go.Win
instance c_ref26_IDs {p0:(List A6)}{r:(List Int)}:CF (B3U p0=some r) 138 [lF 58 (List.map C5 p0)] [] none (lF 1 (List.map (eI .i64) r)) [] none:=⟨fun h=>C0 Tryz.func138 Tryz.call138 1 (let E:List Nat×List Nat×((((List Int)×Int))->St):=([6,7],[],fun q=>[tM 3 (.own 768),tM 8 (iI q.2),(.tok 768, .tok 2 1 (List.map (eI .i64) q.1))]);au)⟩
instance c_ref05_SameItems {p0:(List A9)}{p1:(List A9)}{r:Bool}:CF (A2T p0 p1=some r) 300 [lF 2 (List.map E5 p0),lF 2 (List.map E5 p1)] [] none (.sb r) [] none:=⟨fun h=>C0 Tryz.func300 Tryz.call300 1 (let E:List Nat×List Nat×((Int)->St):=([0,1,12],[],fun q=>[tM 13 (iI q)]);au)⟩
instance c_ref09_Same {p0:D0}{p1:D0}{r:Bool}:CF (B1I p0 p1=some r) 229 [.agg (L4 p0), .agg (L4 p1)] [] none (.sb r) [] none:=⟨fun h=>C0 Tryz.func229 Tryz.call229 1 (au)⟩
instance c_ref10_Same {p0:(List A3)}{p1:(List A3)}{r:Bool}:CF (A8z p0 p1=some r) 301 [lF 2 (List.map D8 p0),lF 2 (List.map D8 p1)] [] none (.sb r) [] none:=⟨fun h=>C0 Tryz.func301 Tryz.call301 1 (let E:List Nat×List Nat×((Int)->St):=([0,1,12],[],fun q=>[tM 13 (iI q)]);au)⟩
instance c_ref11_Same {p0:E4}{p1:E4}{r:Bool}:CF (B1J p0 p1=some r) 230 [.agg (M0 p0), .agg (M0 p1)] [] none (.sb r) [] none:=⟨fun h=>C0 Tryz.func230 Tryz.call230 1 (au)⟩
instance c_ref12_Same {p0:F4}{p1:F4}{r:Bool}:CF (B1K p0 p1=some r) 231 [.agg (N0 p0), .agg (N0 p1)] [] none (.sb r) [] none:=⟨fun h=>C0 Tryz.func231 Tryz.call231 1 (au)⟩
instance c_ref13_SameMarks {p0:(List A7)}{p1:(List A7)}{r:Bool}:CF (A2U p0 p1=some r) 302 [lF 7 (List.map C3 p0),lF 7 (List.map C3 p1)] [] none (.sb r) [] none:=⟨fun h=>C0 Tryz.func302 Tryz.call302 1 (let E:List Nat×List Nat×((Int)->St):=([0,1,12],[],fun q=>[tM 13 (iI q)]);au)⟩
instance c_ref13_Same {p0:D3}{p1:D3}{r:Bool}:CF (B1L p0 p1=some r) 232 [.agg (J9 p0), .agg (J9 p1)] [] none (.sb r) [] none:=⟨fun h=>C0 Tryz.func232 Tryz.call232 1 (au)⟩
instance c_ref14_Same {p0:D5}{p1:D5}{r:Bool}:CF (B1M p0 p1=some r) 233 [.agg (J3 p0), .agg (J3 p1)] [] none (.sb r) [] none:=⟨fun h=>C0 Tryz.func233 Tryz.call233 1 (au)⟩
instance c_ref15_SameWide {p0:(List A2)}{p1:(List A2)}{r:Bool}:CF (A6c p0 p1=some r) 303 [lF 2 (List.map L5 p0),lF 2 (List.map L5 p1)] [] none (.sb r) [] none:=⟨fun h=>C0 Tryz.func303 Tryz.call303 1 (let E:List Nat×List Nat×((Int)->St):=([0,1,12],[],fun q=>[tM 13 (iI q)]);au)⟩
instance c_ref15_Same {p0:E3}{p1:E3}{r:Bool}:CF (B1N p0 p1=some r) 234 [.agg (M5 p0), .agg (M5 p1)] [] none (.sb r) [] none:=⟨fun h=>C0 Tryz.func234 Tryz.call234 1 (au)⟩
instance c_ref16_Same {p0:F6}{p1:F6}{r:Bool}:CF (B1O p0 p1=some r) 235 [.agg [iI p0.Now,lF 1 (List.map (eI .i64) p0.Bn)], .agg [iI p1.Now,lF 1 (List.map (eI .i64) p1.Bn)]] [] none (.sb r) [] none:=⟨fun h=>C0 Tryz.func235 Tryz.call235 1 (au)⟩
instance c_ref17_Same {p0:C4}{p1:C4}{r:Bool}:CF (B1P p0 p1=some r) 236 [.agg (I3 p0), .agg (I3 p1)] [] none (.sb r) [] none:=⟨fun h=>C0 Tryz.func236 Tryz.call236 1 (au)⟩
instance c_ref18_Same {p0:B7}{p1:B7}{r:Bool}:CF (B1Q p0 p1=some r) 304 [.agg (F3 p0), .agg (F3 p1)] [] none (.sb r) [] none:=⟨fun h=>C0 Tryz.func304 Tryz.call304 1 (let E:List Nat×List Nat×((Int)->St):=([2,3,43],[1,2],fun q=>[tM 44 (iI q)]);au)⟩
instance c_ref19_Same {p0:E9}{p1:E9}{r:Bool}:CF (B1R p0 p1=some r) 237 [.agg [lF 5 (List.map F3 p0.Am)], .agg [lF 5 (List.map F3 p1.Am)]] [] none (.sb r) [] none:=⟨fun h=>C0 Tryz.func237 Tryz.call237 1 (let E:List Nat×List Nat×((Int)->St):=([2,3,15],[1,2],fun q=>[tM 16 (iI q)]);au)⟩
instance c_ref20_Same {p0:B8}{p1:B8}{r:Bool}:CF (B1S p0 p1=some r) 238 [.agg (H4 p0), .agg (H4 p1)] [] none (.sb r) [] none:=⟨fun h=>C0 Tryz.func238 Tryz.call238 1 (let E:List Nat×List Nat×((Int)->St):=([2,3,36],[1,2],fun q=>[tM 37 (iI q)]);au)⟩
instance c_ref21_Same {p0:D4}{p1:D4}{r:Bool}:CF (B1T p0 p1=some r) 337 [.agg [iI p0.N,lF 3 (List.map D6 p0.Ae)], .agg [iI p1.N,lF 3 (List.map D6 p1.Ae)]] [] none (.sb r) [] none:=⟨fun h=>C0 Tryz.func337 Tryz.call337 1 (let E:List Nat×List Nat×((Int)->St):=([2,3,22],[1,2],fun q=>[tM 23 (iI q)]);au)⟩
instance c_ref22_Same {p0:(List B2)}{p1:(List B2)}{r:Bool}:CF (B1U p0 p1=some r) 305 [lF 5 (List.map C6 p0),lF 5 (List.map C6 p1)] [] none (.sb r) [] none:=⟨fun h=>C0 Tryz.func305 Tryz.call305 1 (let E:List Nat×List Nat×((Int)->St):=([0,1,12],[],fun q=>[tM 13 (iI q)]);au)⟩
instance c_ref23_Same {p0:C2}{p1:C2}{r:Bool}:CF (B1V p0 p1=some r) 239 [.agg (H5 p0), .agg (H5 p1)] [] none (.sb r) [] none:=⟨fun h=>C0 Tryz.func239 Tryz.call239 1 (au)⟩
instance c_ref25_Same {p0:A8}{p1:A8}{r:Bool}:CF (A8C p0 p1=some r) 139 [.agg (G5 p0), .agg (G5 p1)] [] none (.sb r) [] none:=⟨fun h=>C0 Tryz.func139 Tryz.call139 1 (au)⟩
instance c_ref26_Same {p0:(List A6)}{p1:(List A6)}{r:Bool}:CF (B1W p0 p1=some r) 65 [lF 58 (List.map C5 p0),lF 58 (List.map C5 p1)] [] none (.sb r) [] none:=⟨fun h=>C0 Tryz.func65 Tryz.call65 1 (let E:List Nat×List Nat×((Int)->St):=([0,1,13],[],fun q=>[tM 14 (iI q)]);au)⟩
instance c_ref28_Same {p0:D7}{p1:D7}{r:Bool}:CF (A8J p0 p1=some r) 23 [.agg [iI p0.Now,iI p0.Bd,lF 58 (List.map C5 p0.Ah)], .agg [iI p1.Now,iI p1.Bd,lF 58 (List.map C5 p1.Ah)]] [] none (.sb r) [] none:=⟨fun h=>C0 Tryz.func23 Tryz.call23 1 (au)⟩
end Go.Proofs.YtkakobhohikfkaaGreat
