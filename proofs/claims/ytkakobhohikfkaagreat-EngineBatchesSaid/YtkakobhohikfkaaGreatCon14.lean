/- The contracts: each function of the program does what its function on plain data says. Made by program. -/
import Derived.Test.YtkakobhohikfkaaGreatCoh
import Derived.Test.YtkakobhohikfkaaGreatCon3
import Derived.Test.YtkakobhohikfkaaGreatCon4
import Derived.Test.YtkakobhohikfkaaGreatCon5
import Derived.Test.YtkakobhohikfkaaGreatCon7
import Derived.Test.YtkakobhohikfkaaGreatCon8
import Derived.Test.YtkakobhohikfkaaGreatCon13
set_option linter.unusedVariables false
set_option linter.unusedSimpArgs false
set_option linter.unnecessarySimpa false
set_option maxHeartbeats 40000000
set_option maxRecDepth 20000
namespace Go.Proofs.YtkakobhohikfkaaGreat
open Go.Vc Go.Dec Go.Win
instance c_buckets_Expire {p0:(List A3)}{p1:Int}{r:(List A3)}:CF (A3v p0 p1=some r) 281 [lF 2 (List.map D8 p0),iI p1] [] none (lF 2 (List.map D8 r)) [] none:=⟨fun h=>C0 Tryz.func281 Tryz.call281 1 (let E:List Nat×List Nat×(((List A3))->St):=([1],[],fun q=>[tM 0 (lF 2 (List.map D8 q))]);au)⟩
instance c_count_Advance {p0:E4}{p1:Int}{r:(E4×Int)}:CF (A7h p0 p1=some r) 210 [.agg (M0 p0),iI p1] [] none (.tup [.agg (M0 r.1),iI r.2]) [] none:=⟨fun h=>C0 Tryz.func210 Tryz.call210 1 (au)⟩
instance c_sum_Advance {p0:F4}{p1:Int}{r:(F4×Int)}:CF (A97 p0 p1=some r) 211 [.agg (N0 p0),iI p1] [] none (.tup [.agg (N0 r.1),iI r.2]) [] none:=⟨fun h=>C0 Tryz.func211 Tryz.call211 1 (au)⟩
instance c_marks_Advance {p0:(List A7)}{p1:Int}{p2:Int}{r:(List A7)}:CF (A4v p0 p1 p2=some r) 282 [lF 7 (List.map C3 p0),iI p1,iI p2] [] none (lF 7 (List.map C3 r)) [] none:=⟨fun h=>C0 Tryz.func282 Tryz.call282 1 (let E:List Nat×List Nat×(((List A7))->St):=([1,2],[],fun q=>[tM 0 (lF 7 (List.map C3 q))]);au)⟩
instance c_smooth_Advance {p0:D3}{p1:Int}{r:(D3×Int)}:CF (A6j p0 p1=some r) 212 [.agg (J9 p0),iI p1] [] none (.tup [.agg (J9 r.1),iI r.2]) [] none:=⟨fun h=>C0 Tryz.func212 Tryz.call212 1 (au)⟩
instance c_spread_Advance {p0:D5}{p1:Int}{r:(D5×Int)}:CF (A6k p0 p1=some r) 213 [.agg (J3 p0),iI p1] [] none (.tup [.agg (J3 r.1),iI r.2]) [] none:=⟨fun h=>C0 Tryz.func213 Tryz.call213 1 (au)⟩
instance c_poly_Advance {p0:E3}{p1:Int}{r:(E3×Int)}:CF (A8q p0 p1=some r) 214 [.agg (M5 p0),iI p1] [] none (.tup [.agg (M5 r.1),iI r.2]) [] none:=⟨fun h=>C0 Tryz.func214 Tryz.call214 1 (au)⟩
instance c_halve_Advance {p0:F6}{p1:Int}{r:(F6×Int)}:CF (A7k p0 p1=some r) 215 [.agg [iI p0.Now,lF 1 (List.map (eI .i64) p0.Bn)],iI p1] [] none (.tup [.agg [iI r.1.Now,lF 1 (List.map (eI .i64) r.1.Bn)],iI r.2]) [] none:=⟨fun h=>C0 Tryz.func215 Tryz.call215 1 (⟨none,⟨none,bC h fun b c h=>⟨cK (An (cW ((@c_halve_Validate p0 b).pf c) zz) (r1 (⟨none,cD h (fun g1 h=>lf) (fun g1 h=>⟨none,⟨cK (An (cW (@A7C p0.Now p1 _ rfl) zz) (r1 (⟨none,cD h (fun g2 h=>lf) (fun g2 h=>⟨none,kC h fun d h=>An (kA (oD d)) (⟨none,⟨[iI ((([]:List Int)++p0.Bn).length:Int)],An B5w (⟨(some (some ([], [], [tM 1 (iI p1),tM 2 (.ptr 1 0),tM 4 (.ptr 2 0),tM 9 (.ali 1284),tM 10 (iI (A1L (A1 (p1-p0.Now)) ((([]:List Int)++p0.Bn).length:Int))),tB 1 [iI p0.Now,lF 1 (List.map (eI .i64) p0.Bn)],tB 2 [iI 0, .nilS],(.tok 1284, .tok 2 1 (List.map (eI .i64) (([]:List Int)++p0.Bn)))],1000000))),An (r4 (fr (r1 (An lE trivial)))) (kC h fun e h=>An (kV (oD e)) (⟨none,kC h fun a h=>An (kV (oD a)) (⟨(some (some ([], [], [tM 1 (iI p1),tM 4 (.ptr 2 0),tM 9 (.own 1284),tB 2 [iI 0, .nilS],(.tok 1284, .tok 2 1 (List.map (eI .i64) (laid (laid (([]:List Int)++p0.Bn) ((A1L (A1 (p1-p0.Now)) ((([]:List Int)++p0.Bn).length:Int))).toNat (p0.Bn.take ((([]:List Int)++p0.Bn).length-((A1L (A1 (p1-p0.Now)) ((([]:List Int)++p0.Bn).length:Int))).toNat))) 0 (List.replicate ((A1L (A1 (p1-p0.Now)) ((([]:List Int)++p0.Bn).length:Int))).toNat 0))))],2000000))),An (r3 (An lE trivial)) lf⟩)⟩))⟩)⟩⟩)⟩)⟩)))⟩⟩)⟩)))⟩⟩⟩)⟩
instance c_extreme_Advance {p0:C4}{p1:Int}{r:(C4×Int)}:CF (A46 p0 p1=some r) 216 [.agg (I3 p0),iI p1] [] none (.tup [.agg (I3 r.1),iI r.2]) [] none:=⟨fun h=>C0 Tryz.func216 Tryz.call216 1 (let E:List Nat×List Nat×(((List A9))->St):=([1,2,4],[1,2],fun q=>[tM 9 (lF 2 (List.map E5 q))]);au)⟩
instance c_blocks_Expire {p0:(List B2)}{p1:Int}{r:(List B2)}:CF (A7c p0 p1=some r) 283 [lF 5 (List.map C6 p0),iI p1] [] none (lF 5 (List.map C6 r)) [] none:=⟨fun h=>C0 Tryz.func283 Tryz.call283 1 (let E:List Nat×List Nat×(((List B2))->St):=([1],[],fun q=>[tM 0 (lF 5 (List.map C6 q))]);au)⟩
instance c_quantile_Advance {p0:C2}{p1:Int}{r:(C2×Int)}:CF (A4b p0 p1=some r) 217 [.agg (H5 p0),iI p1] [] none (.tup [.agg (H5 r.1),iI r.2]) [] none:=⟨fun h=>C0 Tryz.func217 Tryz.call217 1 (au)⟩
instance c_synopsis_Advance {p0:A8}{p1:Int}{r:(A8×Int)}:CF (A4j p0 p1=some r) 112 [.agg (G5 p0),iI p1] [] none (.tup [.agg (G5 r.1),iI r.2]) [] none:=⟨fun h=>C0 Tryz.func112 Tryz.call112 1 (au)⟩
end Go.Proofs.YtkakobhohikfkaaGreat
