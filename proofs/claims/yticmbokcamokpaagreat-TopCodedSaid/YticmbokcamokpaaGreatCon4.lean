/- The contracts: each function of the program does what its function on plain data says. Made by program. -/
import Derived.Test.YticmbokcamokpaaGreatCoh
import Derived.Test.YticmbokcamokpaaGreatCon3
set_option linter.unusedVariables false
set_option linter.unusedSimpArgs false
set_option linter.unnecessarySimpa false
set_option maxHeartbeats 40000000
set_option maxRecDepth 20000
namespace Go.Proofs.YticmbokcamokpaaGreat
open Go.Vc Go.Dec Go.Win
instance c_spread_Validate {p0:D5}{r:Int}:CF (A0G p0=some r) 197 [.agg (K4 p0)] [] none (iI r) [] none:=⟨fun h=>C0 Tryz.func197 Tryz.call197 1 (let E:List Nat×List Nat×((Int)->St):=([1],[1],fun q=>[tM 3 (iI q)]);au)⟩
theorem B7V {a:Int}{r:Bool}(h:B4S a=r):E9 Tryz.prog 178 [iI a] [] (.sb r) []:=
 C0 Tryz.func178 Tryz.call178 1 (au)
instance:CC 178 (type_of% @B7V):=⟨@B7V⟩
instance c_poly_Validate {a:E2}{r:Int}:CF (A2a a=some r) 200 [.agg (O6 a)] [] none (iI r) [] none:=⟨fun h=>C0 Tryz.func200 Tryz.call200 1 (let E:List Nat×List Nat×((Int)->St):=([1,3],[1,521],fun q=>[tM 4 (iI q)]);au)⟩
instance c_halve_Validate {a:F4}{r:Int}:CF (A1j a=some r) 205 [.agg [iI a.Now,lF 1 (List.map (eI .i64) a.Bo)]] [] none (iI r) [] none:=⟨fun h=>C0 Tryz.func205 Tryz.call205 1 (let E:List Nat×List Nat×((Int)->St):=([1,26,27],[1],fun q=>[tM 28 (iI q)]);au)⟩
theorem B4y {a:Int}{b:Int}{c:Int}{r:Bool}(h:A6A a b c=r):E9 Tryz.prog 179 [iI a,iI b,iI c] [] (.sb r) []:=
 C0 Tryz.func179 Tryz.call179 1 (au)
instance:CC 179 (type_of% @B4y):=⟨@B4y⟩
theorem A8M {a:Bool}{b:Int}{c:Int}{r:Bool}(h:Z9 a b c=r):E9 Tryz.prog 207 [.sb a,iI b,iI c] [] (.sb r) []:=
 C0 Tryz.func207 Tryz.call207 1 (au)
instance:CC 207 (type_of% @A8M):=⟨@A8M⟩
instance c_extreme_Validate {a:C2}{r:Int}:CF (A0f a=some r) 206 [.agg (I7 a)] [] none (iI r) [] none:=⟨fun h=>C0 Tryz.func206 Tryz.call206 1 (let E:List Nat×List Nat×((Int)->St):=([1,22,23],[1],fun q=>[tM 24 (iI q)]);au)⟩
instance c_chain_Validate {a:B5}{r:Int}:CF (N6 a=some r) 282 [.agg (F8 a)] [] none (iI r) [] none:=⟨fun h=>C0 Tryz.func282 Tryz.call282 1 (let E:List Nat×List Nat×((Int)->St):=([1,58,59],[1],fun q=>[tM 60 (iI q)]);au)⟩
instance c_sample_Validate {a:E7}{r:Int}:CF (Q0 a=some r) 208 [.agg [lF 5 (List.map F8 a.Ao)]] [] none (iI r) [] none:=⟨fun h=>C0 Tryz.func208 Tryz.call208 1 (let E:List Nat×List Nat×((Int)->St):=([1,17,18],[1],fun q=>[tM 19 (iI q)]);au)⟩
instance c_summary_most {a:Int}{b:Int}{r:Int}:CF (A4Y a b=some r) 212 [iI a,iI b] [] none (iI r) [] none:=⟨fun h=>C0 Tryz.func212 Tryz.call212 1 (au)⟩
instance c_summary_Validate {a:C1}{r:Int}:CF (A0h a=some r) 210 [.agg (H9 a)] [] none (iI r) [] none:=⟨fun h=>C0 Tryz.func210 Tryz.call210 1 (let E:List Nat×List Nat×(((Int×Int))->St):=([1,3,62,63],[1],fun q=>[tM 4 (iI q.1),tM 64 (iI q.2)]);au)⟩
theorem B3x {s:Int}{x:Int}{z:Int}{O:Int}{r:Bool}(h:A0W s x z O=r):E9 Tryz.prog 181 [iI s,iI x,iI z,iI O] [] (.sb r) []:=
 C0 Tryz.func181 Tryz.call181 1 (au)
instance:CC 181 (type_of% @B3x):=⟨@B3x⟩
instance c_math_bits_Len64 {s:Int}{r:Int}:CF (Y0 s=some r) 343 [iU s] [] none (iI r) [] none:=⟨fun h=>by
 unfold Y0 at h
 obtain ⟨k,h⟩:=ckS h
 obtain ⟨k1,k2⟩:=oD k
 cases h
 exact C08 Tryz.call343 fun w=>C93 s w k1 k2⟩
instance c_num_Bits {s:Int}{r:Int}:CF (B6E s=some r) 289 [iI s] [] none (iI r) [] none:=⟨fun h=>C0 Tryz.func289 Tryz.call289 1 (au)⟩
instance c_quantile_Size {s:Int}{x:Int}{r:Int}:CF (A5z s x=some r) 216 [iI s,iI x] [] none (iI r) [] none:=⟨fun h=>C0 Tryz.func216 Tryz.call216 1 (au)⟩
instance c_blocks_plain {s:(List B1)}{r:(List A3)}:CF (A6r s=some r) 285 [lF 5 (List.map D1 s)] [] none (lF 2 (List.map E1 r)) [] none:=⟨fun h=>C0 Tryz.func285 Tryz.call285 1 (let E:List Nat×List Nat×((((List A3)×Int))->St):=([6,7],[],fun q=>[tM 3 (.own 768),tM 8 (iI q.2),(.tok 768, .tok 408 2 (List.map E1 q.1))]);au)⟩
instance c_rank_Validate {s:D4}{r:Int}:CF (S5 s=some r) 337 [.agg [iI s.N,lF 3 (List.map D9 s.Ae)]] [] none (iI r) [] none:=⟨fun h=>C0 Tryz.func337 Tryz.call337 1 (let E:List Nat×List Nat×((Int)->St):=([1,3,27,28],[1],fun q=>[tM 29 (iI q)]);au)⟩
instance c_rank_Gap {s:D4}{r:Int}:CF (B6M s=some r) 338 [.agg [iI s.N,lF 3 (List.map D9 s.Ae)]] [] none (iI r) [] none:=⟨fun h=>C0 Tryz.func338 Tryz.call338 1 (let E:List Nat×List Nat×(((Int×Int))->St):=([1],[1],fun q=>[tM 3 (iI q.1),tM 4 (iI q.2)]);au)⟩
instance c_num_CeilDiv {s:Int}{x:Int}{r:(Int×Bool)}:CF (B1d s x=some r) 375 [iI s,iI x] [] none (.tup [iI r.1, .sb r.2]) [] none:=⟨fun h=>C0 Tryz.func375 Tryz.call375 1 (au)⟩
instance c_blocks_Allowed {s:Int}{x:Int}{r:Int}:CF (A60 s x=some r) 339 [iI s,iI x] [] none (iI r) [] none:=⟨fun h=>C0 Tryz.func339 Tryz.call339 1 (let E:List Nat×List Nat×(((Int×Int))->St):=([0,1],[],fun q=>[tM 5 (iI q.1),tM 6 (iI q.2)]);au)⟩
instance c_blocks_Valid {s:(List B1)}{x:Int}{z:Int}{r:Bool}:CF (A4y s x z=some r) 284 [lF 5 (List.map D1 s),iI x,iI z] [] none (.sb r) [] none:=⟨fun h=>C0 Tryz.func284 Tryz.call284 1 (⟨none,⟨none,bC h fun d n h=>bC h fun e f h=>⟨none,An (fun C=>An (fun G=>⟨cK (An (cW ((@c_blocks_plain s d).pf (gdT (nE (oR C G)) n)) zz) (r1 (⟨cK (An (cW ((@c_buckets_Valid d x e).pf (gdT (nE (oR C G)) f)) zz) (r1 (An (fun K=>have h:=cT (oR (oR C G) K) h;lf) (fun K=>have h:=cF (oR (oR C G) K) h;⟨none,⟨[iI (s.length:Int)],An (lenS D1 s) (⟨lO h (fun q=>[tM 2 (iI z),tM 25 (lF 5 (List.map D1 s)),tM 26 (iI (s.length:Int)),tM 27 (iI q)]) fun Q h=>An (jT (_,Q) (An h zz)) (nx fun g R S h M y=>⟨none,cD h (fun P h=>⟨none,bC h fun a o h=>⟨(D1 a),An (J9 D1 o) (⟨none,⟨none,bC h fun p t h=>kC h fun u h=>bC h fun i j h=>bC h fun k l h=>⟨none,⟨cK (An (cW ((@c_rank_Validate a.Bi p).pf t) zz) (r1 (An (fun A=>An (oD (gT (nE A) u)) (An (fun D=>⟨[iI (a.Bi.Ae.length:Int)],An (lenS D9 a.Bi.Ae) (An (fun H=>⟨cK (An (cW ((@c_rank_Gap a.Bi i).pf (gdT (nE (oR (oR A D) H)) j)) zz) (r1 (⟨cK (An (cW ((@c_blocks_Allowed a.Bd z k).pf (gdT (nE (oR (oR A D) H)) l)) zz) (r1 (An (fun L=>have h:=cT (oR (oR (oR A D) H) L) h;have h:=A2I h y;lf) (fun L=>have h:=cF (oR (oR (oR A D) H) L) h;⟨none,bC h fun c v h=>bC h fun b m h=>⟨[iI c.V,iI c.Bv,iI c.Bu],An (J9 D9 v) (⟨[iI (a.Bi.Ae.length:Int)],An (lenS D9 a.Bi.Ae) (⟨[iI b.V,iI b.Bv,iI b.Bu],An (J9 D9 m) (⟨none,⟨none,An (fun I=>An (fun B=>An (fun F=>An (fun J=>have h:=cT (oR (oR (oR I B) F) J) h;have h:=A2I h y;lf) (fun J=>have h:=cF (oR (oR (oR I B) F) J) h;⟨none,jR h M zz⟩)) (fun F=>have h:=cT (oL (oR (oR I B) F)) h;have h:=A2I h y;lf)) (fun B=>have h:=cT (oL (oL (oR I B))) h;have h:=A2I h y;lf)) (fun I=>have h:=cT (oL (oL (oL I))) h;have h:=A2I h y;lf)⟩⟩)⟩)⟩)⟩⟩))))⟩)))⟩) (fun H=>have h:=cT (oL (oR (oR A D) H)) h;have h:=A2I h y;lf))⟩) (fun D=>have h:=cT (oL (oL (oR A D))) h;have h:=A2I h y;lf))) (fun A=>have h:=cT (oL (oL (oL A))) h;have h:=A2I h y;lf))))⟩⟩⟩⟩)⟩⟩) (fun P h=>have h:=W1 h y;lf)⟩)⟩)⟩⟩))))⟩)))⟩) (fun G=>have h:=cT (oL (oR C G)) h;lf)) (fun C=>have h:=cT (oL (oL C)) h;lf)⟩⟩⟩)⟩
instance c_blocks_Total {s:(List B1)}{r:Int}:CF (A25 s=some r) 214 [lF 5 (List.map D1 s)] [] none (iI r) [] none:=⟨fun h=>C0 Tryz.func214 Tryz.call214 1 (au)⟩
instance c_quantile_Validate {s:C3}{r:Int}:CF (V5 s=some r) 213 [.agg (I1 s)] [] none (iI r) [] none:=⟨fun h=>C0 Tryz.func213 Tryz.call213 1 (let E:List Nat×List Nat×((Int)->St):=([1,38,39],[1],fun q=>[tM 40 (iI q)]);au)⟩
instance c_synopsis_right {s:A9}{r:Bool}:CF (A7C s=some r) 182 [.agg (G4 s)] [] none (.sb r) [] none:=⟨fun h=>C0 Tryz.func182 Tryz.call182 1 (au)⟩
instance c_math_bits_Sub64 {s:Int}{x:Int}{z:Int}{r:(Int×Int)}:CF (P9 s x z=some r) 346 [iU s,iU x,iU z] [] none (.tup [iU r.1,iU r.2]) [] none:=⟨fun h=>D0A Tryz.func346 (by kernel_rfl) (by kernel_rfl) (by kernel_rfl) (by kernel_rfl) s x z r h⟩
theorem B69 {a:Int}{r:Int}(h:A1y a=r):E9 Tryz.prog 238 [iI a] [] (iU r) []:=
 C0 Tryz.func238 Tryz.call238 1 (au)
instance:CC 238 (type_of% @B69):=⟨@B69⟩
theorem C5a {a:A2}{r:Bool}(h:A0p a=r):E9 Tryz.prog 303 [.agg [iU a.Hi,iU a.Lo]] [] (.sb r) []:=
 C0 Tryz.func303 Tryz.call303 1 (au)
instance:CC 303 (∀{p0a p0b:Int}{r:Bool},A0p ⟨p0a,p0b⟩=r->E9 Tryz.prog 303 [.agg [iU p0a,iU p0b]] [] (.sb r) []):=⟨fun h=>C5a h⟩
instance c_wide_Bits {a:A2}{r:Int}:CF (A9o a=some r) 304 [.agg [iU a.Hi,iU a.Lo]] [] none (iI r) [] none:=⟨fun h=>C0 Tryz.func304 Tryz.call304 1 (au)⟩
instance c_wide_bit {a:A2}{p1:Int}{r:Int}:CF (C0S a p1=some r) 348 [.agg [iU a.Hi,iU a.Lo],iI p1] [] none (iU r) [] none:=⟨fun h=>C0 Tryz.func348 Tryz.call348 1 (au)⟩
instance c_wide_Div {a:A2}{p1:A2}{r:(A2×A2×Bool)}:CF (A3i a p1=some r) 298 [.agg [iU a.Hi,iU a.Lo], .agg [iU p1.Hi,iU p1.Lo]] [] none (.tup [.agg [iU r.1.Hi,iU r.1.Lo], .agg [iU r.2.1.Hi,iU r.2.1.Lo], .sb r.2.2]) [] none:=⟨fun h=>C0 Tryz.func298 Tryz.call298 1 (let E:List Nat×List Nat×(((Int×Int×Int×Int×Int))->St):=([2,3,4,5,7,8],[1,2,3,4],fun q=>[tM 9 (iI q.1),tB 513 [iU q.2.1,iU q.2.2.1],tB 514 [iU q.2.2.2.1,iU q.2.2.2.2]]);au)⟩
instance c_wide_Gcd {a:A2}{p1:A2}{r:A2}:CF (A6Z a p1=some r) 237 [.agg [iU a.Hi,iU a.Lo], .agg [iU p1.Hi,iU p1.Lo]] [] none (.agg [iU r.Hi,iU r.Lo]) [] none:=⟨fun h=>C0 Tryz.func237 Tryz.call237 1 (let E:List Nat×List Nat×(((Int×Int×Int×Int))->St):=([2,3,4],[3],fun q=>[tB 1 [iU q.1,iU q.2.1],tB 2 [iU q.2.2.1,iU q.2.2.2]]);au)⟩
instance c_ratio_Valid {a:A4}{r:Bool}:CF (A0u a=some r) 135 [.agg [iI a.Bw,iI a.Br]] [] none (.sb r) [] none:=⟨fun h=>C0 Tryz.func135 Tryz.call135 1 (au)⟩
theorem B9L {f:Int}{r:A4}(h:A1m f=r):E9 Tryz.prog 61 [iI f] [] (.agg [iI r.Bw,iI r.Br]) []:=
 C0 Tryz.func61 Tryz.call61 1 (au)
instance:CC 61 (type_of% @B9L):=⟨@B9L⟩
instance c_tape_Read {f:(List Int)}{p1:Int}{r:(Int×Int×Bool)}:CF (A6V f p1=some r) 72 [lF 1 (List.map (eI .u8) f),iI p1] [] none (.tup [iI r.1,iI r.2.1, .sb r.2.2]) [] none:=⟨fun h=>C0 Tryz.func72 Tryz.call72 1 (let E:List Nat×List Nat×(((Int×Int))->St):=([0,1],[],fun q=>[tM 7 (iU q.1),tM 8 (iI q.2)]);au)⟩
instance c_tape_Append_i2 {p1:Int}{r:(List Int)}:CF (A7D p1=some r) 70 [.nilS,iI p1] [] none (.own 0) [] (some (5,1,List.map (eI .u8) r)):=⟨fun h=>C0 Tryz.func70 Tryz.call70 1 (⟨none,⟨none,An (by decide) (⟨none,⟨(some (⟨Int,fun a=>[tM 0 (.nilS),tM 5 (iU a)],fun a=>A72 a=some r,fun _=>0⟩,1000000)),An (cD h (fun g h=>⟨none,jT (A8V .u64 (E5 .u64 (A5 p1) 1)) (An h zz)⟩) (fun g h=>jT (E5 .u64 (A5 p1) 1) (An h zz))) (fun a h=>oC h fun j h=>⟨(Sum.inl ⟨((List Int)×Int)×Nat,fun q=>[tM 0 (.own 999999),tM 5 (iU q.1.2),(.tok 999999, .tok 5 1 (List.map (eI .u8) q.1.1))],fun q=>M7 (fun (s:((List Int)×Int))=>B1O s.1 s.2) q.2 q.1=some r,fun q=>q.2⟩),An (⟨[(999999,none)],⟨[],⟨(([],a),j),An h zz⟩⟩⟩) (nx fun ⟨c,b⟩ m1 x1 h hl1 hr1=>⟨none,cD h (fun i h=>⟨none,kC h fun d h=>An (kA (oD d)) (⟨none,An (by decide) (⟨[(999999,some 1000261)],⟨[],⟨(((c++ [(N8 .u8 (IntKind.u8.wrap b) 128)]),(G0 .u64 b 7)),m1),An (hl1 ((c++ [(N8 .u8 (IntKind.u8.wrap b) 128)]),(G0 .u64 b 7)) (oJ h).symm) (An (D8s m1) (r2 (An lE trivial)))⟩⟩⟩)⟩)⟩) (fun i h=>have h:=W1 h hr1;⟨none,kC h fun e h=>An (kA (oD e)) (by (first|cases h|rw [<-oJ h]);exact lE)⟩)⟩)⟩)⟩⟩)⟩⟩)⟩
instance c_tape_Tape_Int_i2 {b0_1:Int}{b1:Int}{r:(List Int)}:CF (A1r b0_1 b1=some r) 80 [.ptr 0 0, .ptr 1 0] [[.nilS,iI b0_1, .sb false, .sb false], [iI b1]] none (.tup []) [[.own 0,iI b0_1, .sb false, .sb false], [iI b1]] (some (5,1,List.map (eI .u8) r)):=⟨fun h=>C0 Tryz.func80 Tryz.call80 3 (au)⟩
end Go.Proofs.YticmbokcamokpaaGreat
