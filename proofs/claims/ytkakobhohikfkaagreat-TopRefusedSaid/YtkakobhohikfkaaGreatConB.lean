/- The contracts of what a law adds. Made by program. -/
import Derived.Test.YtkakobhohikfkaaGreatCoh
import Derived.Test.YtkakobhohikfkaaGreatWinB
import Derived.Test.YtkakobhohikfkaaGreatWalkB
import Derived.Test.YtkakobhohikfkaaGreatCon21
import Derived.Test.YtkakobhohikfkaaGreatCon25
import Derived.Test.YtkakobhohikfkaaGreatCon26
import Derived.Test.YtkakobhohikfkaaGreatCon27
set_option linter.unusedVariables false
set_option linter.unusedSimpArgs false
set_option linter.unnecessarySimpa false
set_option maxHeartbeats 40000000
set_option maxRecDepth 20000
namespace Go.Proofs.YtkakobhohikfkaaGreat
open Go.Vc Go.Dec Go.Win
instance c_top_play {p0:(List E9)}{p1:Int}{r:D4}:CF (R0 p0 p1=some r) 10 [lF 17 (List.map G7 p0),iI p1] [] none (.agg [iI r.Now,iI r.Bd,lF 58 (List.map C7 r.Ah)]) [] none:=⟨fun h=>C0 Tryz.func10 Tryz.call10 1 (let E:List Nat×List Nat×(((Int×Int×Int×(List B0)))->St):=([0,1,4,5],[1],fun q=>[tM 7 (iI q.1),tB 261 [iI q.2.1,iI q.2.2.1,lF 58 (List.map C7 q.2.2.2)]]);au)⟩
instance c_ref27_SameBytes {p0:List Int}{p1:List Int}{r:Bool}:CF (G2 p0 p1=some r) 47 [lF 1 (List.map (eI .u8) p0),lF 1 (List.map (eI .u8) p1)] [] none (.sb r) [] none:=⟨fun h=>(by cases h;exact A94 Tryz.call47 Tryz.underlying28 Tryz.underlying5 Tryz.underlying9 walk_SameBytes p0 p1)⟩
instance c_top_same {p0:D4}{p1:D4}{r:Bool}:CF (L0 p0 p1=some r) 12 [.agg [iI p0.Now,iI p0.Bd,lF 58 (List.map C7 p0.Ah)], .agg [iI p1.Now,iI p1.Bd,lF 58 (List.map C7 p1.Ah)]] [] none (.sb r) [] none:=⟨fun h=>C0 Tryz.func12 Tryz.call12 1 (au)⟩
theorem A3v {a:(List E9)}{b:E9}{r:Bool}(h:G3 a b=some r):E5 Tryz.prog 3 [lF 17 (List.map G7 a), .agg (G7 b)] [] (.sb r) []:=
 C0 Tryz.func3 Tryz.call3 1 (au)
end Go.Proofs.YtkakobhohikfkaaGreat
