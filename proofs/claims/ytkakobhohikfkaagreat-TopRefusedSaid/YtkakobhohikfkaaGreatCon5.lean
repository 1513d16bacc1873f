/- The contracts: each function of the program does what its function on plain data says. Made by program. -/
import Derived.Test.YtkakobhohikfkaaGreatCoh
import Derived.Test.YtkakobhohikfkaaGreatCon2
import Derived.Test.YtkakobhohikfkaaGreatCon3
import Derived.Test.YtkakobhohikfkaaGreatCon4
set_option linter.unusedVariables false
set_option linter.unusedSimpArgs false
set_option linter.unnecessarySimpa false
set_option maxHeartbeats 40000000
set_option maxRecDepth 20000
namespace Go.Proofs.YtkakobhohikfkaaGreat
open Go.Vc Go.Dec Go.Win
instance c_summary_Validate {p0:B9}{r:Int}:CF (X1 p0=some r) 179 [.agg (H8 p0)] [] none (iI r) [] none:=⟨fun h=>C0 Tryz.func179 Tryz.call179 1 (let E:List Nat×List Nat×(((Int×Int))->St):=([1,3,62,63],[1],fun q=>[tM 4 (iI q.1),tM 64 (iI q.2)]);au)⟩
instance c_math_bits_Len64 {p0:Int}{r:Int}:CF (W1 p0=some r) 317 [iU p0] [] none (iI r) [] none:=⟨fun h=>by
 unfold W1 at h
 obtain ⟨k,h⟩:=ckS h
 obtain ⟨k1,k2⟩:=oD k
 cases h
 exact B9e Tryz.call317 fun w=>C7C p0 w k1 k2⟩
instance c_num_Bits {p0:Int}{r:Int}:CF (B47 p0=some r) 258 [iI p0] [] none (iI r) [] none:=⟨fun h=>C0 Tryz.func258 Tryz.call258 1 (au)⟩
instance c_quantile_Size {p0:Int}{p1:Int}{r:Int}:CF (A39 p0 p1=some r) 185 [iI p0,iI p1] [] none (iI r) [] none:=⟨fun h=>C0 Tryz.func185 Tryz.call185 1 (au)⟩
instance c_blocks_plain {p0:(List B2)}{r:(List A3)}:CF (A4O p0=some r) 254 [lF 5 (List.map C6 p0)] [] none (lF 2 (List.map D7 r)) [] none:=⟨fun h=>C0 Tryz.func254 Tryz.call254 1 (let E:List Nat×List Nat×((((List A3)×Int))->St):=([6,7],[],fun q=>[tM 3 (.own 768),tM 8 (iI q.2),(.tok 768, .tok 353 2 (List.map D7 q.1))]);au)⟩
instance c_rank_Validate {p0:D0}{r:Int}:CF (R4 p0=some r) 311 [.agg [iI p0.N,lF 3 (List.map D5 p0.Ae)]] [] none (iI r) [] none:=⟨fun h=>C0 Tryz.func311 Tryz.call311 1 (let E:List Nat×List Nat×((Int)->St):=([1,3,27,28],[1],fun q=>[tM 29 (iI q)]);au)⟩
instance c_rank_Gap {p0:D0}{r:Int}:CF (B5e p0=some r) 312 [.agg [iI p0.N,lF 3 (List.map D5 p0.Ae)]] [] none (iI r) [] none:=⟨fun h=>C0 Tryz.func312 Tryz.call312 1 (let E:List Nat×List Nat×(((Int×Int))->St):=([1],[1],fun q=>[tM 3 (iI q.1),tM 4 (iI q.2)]);au)⟩
instance c_num_CeilDiv {p0:Int}{p1:Int}{r:(Int×Bool)}:CF (A9C p0 p1=some r) 339 [iI p0,iI p1] [] none (.tup [iI r.1, .sb r.2]) [] none:=⟨fun h=>C0 Tryz.func339 Tryz.call339 1 (au)⟩
instance c_blocks_Allowed {p0:Int}{p1:Int}{r:Int}:CF (A5i p0 p1=some r) 313 [iI p0,iI p1] [] none (iI r) [] none:=⟨fun h=>C0 Tryz.func313 Tryz.call313 1 (let E:List Nat×List Nat×(((Int×Int))->St):=([0,1],[],fun q=>[tM 5 (iI q.1),tM 6 (iI q.2)]);au)⟩
instance c_blocks_Valid {p0:(List B2)}{p1:Int}{p2:Int}{r:Bool}:CF (A27 p0 p1 p2=some r) 253 [lF 5 (List.map C6 p0),iI p1,iI p2] [] none (.sb r) [] none:=⟨fun h=>C0 Tryz.func253 Tryz.call253 1 (⟨none,⟨none,bC h fun d n h=>bC h fun e f h=>⟨none,An (fun g1=>An (fun g2=>⟨cK (An (cW ((@c_blocks_plain p0 d).pf (gdT (nE (oR g1 g2)) n)) zz) (r1 (⟨cK (An (cW ((@c_buckets_Valid d p1 e).pf (gdT (nE (oR g1 g2)) f)) zz) (r1 (An (fun g3=>have h:=cT (oR (oR g1 g2) g3) h;lf) (fun g3=>have h:=cF (oR (oR g1 g2) g3) h;⟨none,⟨[iI (p0.length:Int)],An (J4 C6 p0) (⟨lO h (fun q=>[tM 2 (iI p2),tM 25 (lF 5 (List.map C6 p0)),tM 26 (iI (p0.length:Int)),tM 27 (iI q)]) fun n1 h=>An (jT (_,n1) (An h zz)) (nx fun g m1 x1 h hl1 hr1=>⟨none,cD h (fun g4 h=>⟨none,bC h fun a o h=>⟨(C6 a),An (I7 C6 o) (⟨none,⟨none,bC h fun p t h=>kC h fun u h=>bC h fun i j h=>bC h fun k l h=>⟨none,⟨cK (An (cW ((@c_rank_Validate a.Bh p).pf t) zz) (r1 (An (fun g5=>An (oD (gT (nE g5) u)) (An (fun g6=>⟨[iI (a.Bh.Ae.length:Int)],An (J4 D5 a.Bh.Ae) (An (fun g7=>⟨cK (An (cW ((@c_rank_Gap a.Bh i).pf (gdT (nE (oR (oR g5 g6) g7)) j)) zz) (r1 (⟨cK (An (cW ((@c_blocks_Allowed a.Bc p2 k).pf (gdT (nE (oR (oR g5 g6) g7)) l)) zz) (r1 (An (fun g8=>have h:=cT (oR (oR (oR g5 g6) g7) g8) h;have h:=A2S h hr1;lf) (fun g8=>have h:=cF (oR (oR (oR g5 g6) g7) g8) h;⟨none,bC h fun c v h=>bC h fun b m h=>⟨[iI c.V,iI c.Bt,iI c.Bs],An (I7 D5 v) (⟨[iI (a.Bh.Ae.length:Int)],An (J4 D5 a.Bh.Ae) (⟨[iI b.V,iI b.Bt,iI b.Bs],An (I7 D5 m) (⟨none,⟨none,An (fun g9=>An (fun g10=>An (fun g11=>An (fun g12=>have h:=cT (oR (oR (oR g9 g10) g11) g12) h;have h:=A2S h hr1;lf) (fun g12=>have h:=cF (oR (oR (oR g9 g10) g11) g12) h;⟨none,jR h hl1 zz⟩)) (fun g11=>have h:=cT (oL (oR (oR g9 g10) g11)) h;have h:=A2S h hr1;lf)) (fun g10=>have h:=cT (oL (oL (oR g9 g10))) h;have h:=A2S h hr1;lf)) (fun g9=>have h:=cT (oL (oL (oL g9))) h;have h:=A2S h hr1;lf)⟩⟩)⟩)⟩)⟩⟩))))⟩)))⟩) (fun g7=>have h:=cT (oL (oR (oR g5 g6) g7)) h;have h:=A2S h hr1;lf))⟩) (fun g6=>have h:=cT (oL (oL (oR g5 g6))) h;have h:=A2S h hr1;lf))) (fun g5=>have h:=cT (oL (oL (oL g5))) h;have h:=A2S h hr1;lf))))⟩⟩⟩⟩)⟩⟩) (fun g4 h=>have h:=S4 h hr1;lf)⟩)⟩)⟩⟩))))⟩)))⟩) (fun g2=>have h:=cT (oL (oR g1 g2)) h;lf)) (fun g1=>have h:=cT (oL (oL g1)) h;lf)⟩⟩⟩)⟩
instance c_blocks_Total {p0:(List B2)}{r:Int}:CF (A1L p0=some r) 183 [lF 5 (List.map C6 p0)] [] none (iI r) [] none:=⟨fun h=>C0 Tryz.func183 Tryz.call183 1 (au)⟩
instance c_quantile_Validate {p0:C3}{r:Int}:CF (T2 p0=some r) 182 [.agg (H9 p0)] [] none (iI r) [] none:=⟨fun h=>C0 Tryz.func182 Tryz.call182 1 (let E:List Nat×List Nat×((Int)->St):=([1,38,39],[1],fun q=>[tM 40 (iI q)]);au)⟩
instance c_synopsis_right {p0:A7}{r:Bool}:CF (A5Q p0=some r) 151 [.agg (F9 p0)] [] none (.sb r) [] none:=⟨fun h=>C0 Tryz.func151 Tryz.call151 1 (au)⟩
end Go.Proofs.YtkakobhohikfkaaGreat
