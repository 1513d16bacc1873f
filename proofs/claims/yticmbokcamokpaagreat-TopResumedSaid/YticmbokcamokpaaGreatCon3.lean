/- The contracts: each function of the program does what its function on plain data says. Made by program. -/
import Derived.Test.YticmbokcamokpaaGreatCoh
set_option linter.unusedVariables false
set_option linter.unusedSimpArgs false
set_option linter.unnecessarySimpa false
set_option maxHeartbeats 40000000
set_option maxRecDepth 20000
namespace Go.Proofs.YticmbokcamokpaaGreat
open Go.Vc Go.Dec Go.Win
theorem B5L {a:Int}{b:Int}{c:Int}{r:Bool}(h:A8b a b c=r):E9 Tryz.prog 173 [iI a,iI b,iI c] [] (.sb r) []:=
 C0 Tryz.func173 Tryz.call173 1 (au)
instance:CC 173 (type_of% @B5L):=⟨@B5L⟩
theorem B66 {a:Int}{r:Bool}(h:A66 a=r):E9 Tryz.prog 332 [iI a] [] (.sb r) []:=
 C0 Tryz.func332 Tryz.call332 1 (au)
instance:CC 332 (type_of% @B66):=⟨@B66⟩
instance c_exact_Valid {a:(List A8)}{p1:Int}{r:Bool}:CF (B07 a p1=some r) 271 [lF 2 (List.map E8 a),iI p1] [] none (.sb r) [] none:=⟨fun h=>C0 Tryz.func271 Tryz.call271 1 (let E:List Nat×List Nat×((Int)->St):=([0,1,10,11],[],fun q=>[tM 12 (iI q)]);au)⟩
theorem B63 {a:Int}{r:Bool}(h:A3L a=r):E9 Tryz.prog 300 [iI a] [] (.sb r) []:=
 C0 Tryz.func300 Tryz.call300 1 (au)
instance:CC 300 (type_of% @B63):=⟨@B63⟩
theorem B5I {a:Int}{b:Int}{r:Int}(h:A2S a b=r):E9 Tryz.prog 262 [iI a,iI b] [] (iI r) []:=
 C0 Tryz.func262 Tryz.call262 1 (au)
instance:CC 262 (type_of% @B5I):=⟨@B5I⟩
theorem B62 {a:Int}{b:Int}{c:Int}{r:Bool}(h:Q4 a b c=r):E9 Tryz.prog 227 [iI a,iI b,iI c] [] (.sb r) []:=
 C0 Tryz.func227 Tryz.call227 1 (au)
instance:CC 227 (type_of% @B62):=⟨@B62⟩
theorem B4A {a:Int}{r:Bool}(h:A9R a=r):E9 Tryz.prog 185 [iI a] [] (.sb r) []:=
 C0 Tryz.func185 Tryz.call185 1 (au)
instance:CC 185 (type_of% @B4A):=⟨@B4A⟩
instance c_recent_Validate {a:D0}{r:Int}:CF (Y2 a=some r) 184 [.agg (M9 a)] [] none (iI r) [] none:=⟨fun h=>C0 Tryz.func184 Tryz.call184 1 (let E:List Nat×List Nat×((Int)->St):=([1,30,31],[1],fun q=>[tM 32 (iI q)]);au)⟩
theorem B64 {a:Int}{b:Int}{c:Int}{d:Int}{r:Bool}(h:A62 a b c d=r):E9 Tryz.prog 174 [iI a,iI b,iI c,iI d] [] (.sb r) []:=
 C0 Tryz.func174 Tryz.call174 1 (au)
instance:CC 174 (type_of% @B64):=⟨@B64⟩
theorem A9t {a:Int}{r:Bool}(h:A26 a=r):E9 Tryz.prog 333 [iI a] [] (.sb r) []:=
 C0 Tryz.func333 Tryz.call333 1 (au)
instance:CC 333 (type_of% @A9t):=⟨@A9t⟩
theorem A8K {s:Int}{r:Bool}(h:A0T s=r):E9 Tryz.prog 273 [iI s] [] (.sb r) []:=
 C0 Tryz.func273 Tryz.call273 1 (au)
instance:CC 273 (type_of% @A8K):=⟨@A8K⟩
instance c_buckets_Valid {s:(List A3)}{p1:Int}{r:Bool}:CF (U6 s p1=some r) 272 [lF 2 (List.map E1 s),iI p1] [] none (.sb r) [] none:=⟨fun h=>C0 Tryz.func272 Tryz.call272 1 (⟨none,⟨none,⟨none,An (fun g1=>An (fun g2=>have h:=cT (oR g1 g2) h;lf) (fun g2=>have h:=cF (oR g1 g2) h;⟨none,⟨none,⟨[iI (s.length:Int)],An (lenS E1 s) (⟨lO h (fun q=>[tM 0 (lF 2 (List.map E1 s)),tM 1 (iI p1),tM 5 (.ptr 513 0),tM 16 (lF 2 (List.map E1 s)),tM 17 (iI (s.length:Int)),tM 18 (iI q.1),tB 513 [iI q.2.1,iI q.2.2.1,iI q.2.2.2.1,iI q.2.2.2.2.1,iI q.2.2.2.2.2.1,iI q.2.2.2.2.2.2.1,iI q.2.2.2.2.2.2.2.1,iI q.2.2.2.2.2.2.2.2.1,iI q.2.2.2.2.2.2.2.2.2.1,iI q.2.2.2.2.2.2.2.2.2.2.1,iI q.2.2.2.2.2.2.2.2.2.2.2.1,iI q.2.2.2.2.2.2.2.2.2.2.2.2.1,iI q.2.2.2.2.2.2.2.2.2.2.2.2.2.1,iI q.2.2.2.2.2.2.2.2.2.2.2.2.2.2.1,iI q.2.2.2.2.2.2.2.2.2.2.2.2.2.2.2.1,iI q.2.2.2.2.2.2.2.2.2.2.2.2.2.2.2.2.1,iI q.2.2.2.2.2.2.2.2.2.2.2.2.2.2.2.2.2.1,iI q.2.2.2.2.2.2.2.2.2.2.2.2.2.2.2.2.2.2.1,iI q.2.2.2.2.2.2.2.2.2.2.2.2.2.2.2.2.2.2.2.1,iI q.2.2.2.2.2.2.2.2.2.2.2.2.2.2.2.2.2.2.2.2.1,iI q.2.2.2.2.2.2.2.2.2.2.2.2.2.2.2.2.2.2.2.2.2.1,iI q.2.2.2.2.2.2.2.2.2.2.2.2.2.2.2.2.2.2.2.2.2.2.1,iI q.2.2.2.2.2.2.2.2.2.2.2.2.2.2.2.2.2.2.2.2.2.2.2.1,iI q.2.2.2.2.2.2.2.2.2.2.2.2.2.2.2.2.2.2.2.2.2.2.2.2.1,iI q.2.2.2.2.2.2.2.2.2.2.2.2.2.2.2.2.2.2.2.2.2.2.2.2.2.1,iI q.2.2.2.2.2.2.2.2.2.2.2.2.2.2.2.2.2.2.2.2.2.2.2.2.2.2.1,iI q.2.2.2.2.2.2.2.2.2.2.2.2.2.2.2.2.2.2.2.2.2.2.2.2.2.2.2.1,iI q.2.2.2.2.2.2.2.2.2.2.2.2.2.2.2.2.2.2.2.2.2.2.2.2.2.2.2.2.1,iI q.2.2.2.2.2.2.2.2.2.2.2.2.2.2.2.2.2.2.2.2.2.2.2.2.2.2.2.2.2.1,iI q.2.2.2.2.2.2.2.2.2.2.2.2.2.2.2.2.2.2.2.2.2.2.2.2.2.2.2.2.2.2.1,iI q.2.2.2.2.2.2.2.2.2.2.2.2.2.2.2.2.2.2.2.2.2.2.2.2.2.2.2.2.2.2.2]]) fun n1 h=>An (jT (_,n1) (An h zz)) (nx fun ⟨L,z,A,B,C,D,E,F,G,H,I,a,b,c,d,e,f,g,i,j,k,l,m,n,o,p,t,u,v,w,x,y⟩ m1 x1 h hl1 aa=>⟨none,cD h (fun g3 h=>⟨none,bC h fun K a3 h=>⟨[iI K.T,iI K.Bd],An (J9 E1 a3) (⟨none,⟨none,⟨cK (An (cW (@A9t K.T _ rfl) zz) (r1 (An (fun g4=>⟨cK (An (cW (@A8K K.Bd _ rfl) zz) (r1 (An (fun g5=>have h:=cT (oR g4 g5) h;have h:=A2I h aa;lf) (fun g5=>have h:=cF (oR g4 g5) h;⟨none,bC h fun P a4 h=>bC h fun M U h=>⟨uO [tM 0 (lF 2 (List.map E1 s)),tM 1 (iI p1),tM 5 (.ptr 513 0),tM 7 (.ptr 1284 0),tM 16 (lF 2 (List.map E1 s)),tM 17 (iI (s.length:Int)),tM 18 (iI L),tM 56 (.sb ((decide (L>0))&&((decide (P.T>K.T))||(decide (M.Bd<K.Bd))))),tB 513 [iI z,iI A,iI B,iI C,iI D,iI E,iI F,iI G,iI H,iI I,iI a,iI b,iI c,iI d,iI e,iI f,iI g,iI i,iI j,iI k,iI l,iI m,iI n,iI o,iI p,iI t,iI u,iI v,iI w,iI x,iI y],tB 1284 [iI K.T,iI K.Bd]] 1000000 (An (An (fun g6=>⟨[iI P.T,iI P.Bd],An (J9 E1 (gdT g6 a4)) (An (fun g7=>⟨[iI M.T,iI M.Bd],An (J9 E1 (gdT (aR g6 (nE g7)) U)) (jV ((r1 (fr (r1 (fr (r2 (An (D8b (aR g6 (oR g7 rfl))) zz))))))))⟩) (fun g7=>jV ((r1 (fr (r1 (fr (r2 (An (D8b (aR g6 (oL g7))) zz)))))))))⟩) (fun g6=>jV ((r1 (fr (r1 (fr (r2 (An (D8b (aL g6)) zz))))))))) (fun _ _=>cD h (fun g8 h=>have h:=A2I h aa;lf) (fun g8 h=>⟨none,bC h fun a6 V h=>bC h fun W X h=>bC h fun a7 Y h=>bC h fun a8 Z h=>An (N7 (eI .u64) V) (⟨[iI W],An (P8 (eI .i64) X) (An (N7 (eI .u64) Y) (An (B3q (AV.int .u64) Z) (⟨none,jR h hl1 zz⟩)))⟩)⟩)))⟩⟩))))⟩) (fun g4=>have h:=cT (oL g4) h;have h:=A2I h aa;lf))))⟩⟩⟩)⟩⟩) (fun g3 h=>have h:=W1 h aa;⟨none,⟨[iI (s.length:Int)],An (lenS E1 s) (cD h (fun g9 h=>lf) (fun g9 h=>⟨none,bC h fun J a0 h=>⟨[iI J.T,iI J.Bd],An (J9 E1 a0) (⟨none,⟨lO h (fun q=>[tM 1 (iI p1),tM 5 (.ptr 513 0),tM 8 (iI J.Bd),tM 9 (iI q),tB 513 [iI z,iI A,iI B,iI C,iI D,iI E,iI F,iI G,iI H,iI I,iI a,iI b,iI c,iI d,iI e,iI f,iI g,iI i,iI j,iI k,iI l,iI m,iI n,iI o,iI p,iI t,iI u,iI v,iI w,iI x,iI y]]) fun n1 h=>An (jT (_,n1) (An h zz)) (nx fun N m1 x1 h hl1 aa=>⟨none,cD h (fun g10 h=>⟨none,bC h fun a9 a1 h=>bC h fun Q a2 h=>bC h fun a5 R h=>bC h fun O S h=>⟨uO [tM 1 (iI p1),tM 5 (.ptr 513 0),tM 8 (iI J.Bd),tM 9 (iI N),tM 93 (.sb ((decide (Q>(A1 (p1+1))))||((decide (N<J.Bd))&&(decide (O<p1))))),tB 513 [iI z,iI A,iI B,iI C,iI D,iI E,iI F,iI G,iI H,iI I,iI a,iI b,iI c,iI d,iI e,iI f,iI g,iI i,iI j,iI k,iI l,iI m,iI n,iI o,iI p,iI t,iI u,iI v,iI w,iI x,iI y]] 1000000 (An (An (N7 (eI .u64) a1) (⟨[iI Q],An (P8 (eI .i64) a2) (An (fun ab=>An (fun ac=>An (N7 (eI .u64) (gdT (aR (nE ab) ac) R)) (⟨[iI O],An (P8 (eI .i64) (gdT (aR (nE ab) ac) S)) (jV ((r4 (An (D8b (oR ab (aR ac rfl))) zz))))⟩)) (fun ac=>jV ((r4 (An (D8b (oR ab (aL ac))) zz))))) (fun ab=>jV ((r4 (An (D8b (oL ab)) zz)))))⟩)) (fun _ _=>cD h (fun g13 h=>have h:=A2I h aa;lf) (fun g13 h=>⟨none,jR h hl1 zz⟩)))⟩⟩) (fun g10 h=>have h:=W1 h aa;lf)⟩)⟩⟩)⟩⟩))⟩⟩)⟩)⟩)⟩⟩⟩)) (fun g1=>have h:=cT (oL g1) h;lf)⟩⟩⟩)⟩
instance c_buckets_Total {s:(List A3)}{r:Int}:CF (L7 s=some r) 187 [lF 2 (List.map E1 s)] [] none (iI r) [] none:=⟨fun h=>C0 Tryz.func187 Tryz.call187 1 (let E:List Nat×List Nat×(((Int×Int))->St):=([6,7],[],fun q=>[tM 3 (iI q.1),tM 8 (iI q.2)]);au)⟩
instance c_count_Validate {s:E4}{r:Int}:CF (W9 s=some r) 186 [.agg (N1 s)] [] none (iI r) [] none:=⟨fun h=>C0 Tryz.func186 Tryz.call186 1 (let E:List Nat×List Nat×((Int)->St):=([1,32,33],[1],fun q=>[tM 34 (iI q)]);au)⟩
theorem B9M {a:Int}{b:Int}{c:Int}{d:Int}{e:Int}{r:Bool}(h:B0P a b c d e=r):E9 Tryz.prog 175 [iI a,iI b,iI c,iI d,iI e] [] (.sb r) []:=
 C0 Tryz.func175 Tryz.call175 1 (au)
instance:CC 175 (type_of% @B9M):=⟨@B9M⟩
instance c_sum_Validate {a:F3}{r:Int}:CF (A3d a=some r) 189 [.agg (P3 a)] [] none (iI r) [] none:=⟨fun h=>C0 Tryz.func189 Tryz.call189 1 (let E:List Nat×List Nat×((Int)->St):=([1,34,35],[1],fun q=>[tM 36 (iI q)]);au)⟩
theorem B67 {a:Int}{b:Int}{c:Int}{d:Int}{r:Bool}(h:A7a a b c d=r):E9 Tryz.prog 177 [iI a,iI b,iI c,iI d] [] (.sb r) []:=
 C0 Tryz.func177 Tryz.call177 1 (au)
instance:CC 177 (type_of% @B67):=⟨@B67⟩
theorem B5M {a:Int}{b:Int}{c:Int}{d:Int}{e:Int}{r:Bool}(h:A1z a b c d e=r):E9 Tryz.prog 176 [iI a,iI b,iI c,iI d,iI e] [] (.sb r) []:=
 C0 Tryz.func176 Tryz.call176 1 (au)
instance:CC 176 (type_of% @B5M):=⟨@B5M⟩
theorem B4B {a:Int}{r:Int}(h:Z5 a=r):E9 Tryz.prog 192 [iI a] [] (iI r) []:=
 C0 Tryz.func192 Tryz.call192 1 (au)
instance:CC 192 (type_of% @B4B):=⟨@B4B⟩
theorem B68 {a:Int}{b:Int}{c:Int}{d:Int}{e:Int}{r:Bool}(h:A0a a b c d e=r):E9 Tryz.prog 334 [iI a,iI b,iI c,iI d,iI e] [] (.sb r) []:=
 C0 Tryz.func334 Tryz.call334 1 (au)
instance:CC 334 (type_of% @B68):=⟨@B68⟩
instance c_marks_Valid {a:(List A6)}{b:Int}{c:Int}{d:Int}{e:Int}{p5:Int}{r:Bool}:CF (A79 a b c d e p5=some r) 276 [lF 7 (List.map C8 a),iI b,iI c,iI d,iI e,iI p5] [] none (.sb r) [] none:=⟨fun h=>C0 Tryz.func276 Tryz.call276 1 (let E:List Nat×List Nat×((Int)->St):=([0,1,2,3,4,5,23,24],[],fun q=>[tM 25 (iI q)]);au)⟩
theorem C05 {a:Int}{b:Int}{r:(Int×Bool)}(h:B9j a b=r):E9 Tryz.prog 301 [iI a,iI b] [] (.tup [iI r.1, .sb r.2]) []:=
 C0 Tryz.func301 Tryz.call301 1 (au)
instance:CC 301 (type_of% @C05):=⟨@C05⟩
theorem B7W {a:A6}{b:Int}{r:Int}(h:A0l a b=r):E9 Tryz.prog 228 [.agg (C8 a),iI b] [] (iI r) []:=
 C0 Tryz.func228 Tryz.call228 1 (au)
instance:CC 228 (type_of% @B7W):=⟨@B7W⟩
theorem B5N {a:A6}{b:A6}{c:Int}{d:Int}{r:Bool}(h:P5 a b c d=r):E9 Tryz.prog 196 [.agg (C8 a), .agg (C8 b),iI c,iI d] [] (.sb r) []:=
 C0 Tryz.func196 Tryz.call196 1 (au)
instance:CC 196 (type_of% @B5N):=⟨@B5N⟩
instance c_smooth_Validate {a:D2}{r:Int}:CF (A0F a=some r) 191 [.agg (K9 a)] [] none (iI r) [] none:=⟨fun h=>C0 Tryz.func191 Tryz.call191 1 (let E:List Nat×List Nat×((Int)->St):=([1,35,36],[1],fun q=>[tM 37 (iI q)]);au)⟩
theorem B4C {a:A6}{r:Bool}(h:A4X a=r):E9 Tryz.prog 277 [.agg (C8 a)] [] (.sb r) []:=
 C0 Tryz.func277 Tryz.call277 1 (au)
instance:CC 277 (type_of% @B4C):=⟨@B4C⟩
theorem B7d {a:A6}{r:Int}(h:A7A a=r):E9 Tryz.prog 279 [.agg (C8 a)] [] (iI r) []:=
 C0 Tryz.func279 Tryz.call279 1 (au)
instance:CC 279 (type_of% @B7d):=⟨@B7d⟩
theorem A6u {a:Int}{b:Int}{r:(Int×Int)}(h:Y1 a b=r):E9 Tryz.prog 335 [iU a,iU b] [] (.tup [iU r.1,iU r.2]) []:=
 C0 Tryz.func335 Tryz.call335 1 (au)
instance:CC 335 (type_of% @A6u):=⟨@A6u⟩
theorem A9v {a:Int}{b:Int}{r:A2}(h:Q3 a b=r):E9 Tryz.prog 278 [iU a,iU b] [] (.agg [iU r.Hi,iU r.Lo]) []:=
 C0 Tryz.func278 Tryz.call278 1 (au)
instance:CC 278 (type_of% @A9v):=⟨@A9v⟩
theorem B2G {a:Int}{r:A2}(h:K5 a=r):E9 Tryz.prog 203 [iU a] [] (.agg [iU r.Hi,iU r.Lo]) []:=
 C0 Tryz.func203 Tryz.call203 1 (au)
instance:CC 203 (type_of% @B2G):=⟨@B2G⟩
instance c_math_bits_Add64 {a:Int}{p1:Int}{p2:Int}{r:(Int×Int)}:CF (N9 a p1 p2=some r) 281 [iU a,iU p1,iU p2] [] none (.tup [iU r.1,iU r.2]) [] none:=⟨fun h=>D0z Tryz.func281 (by kernel_rfl) (by kernel_rfl) (by kernel_rfl) (by kernel_rfl) a p1 p2 r h⟩
instance c_wide_Add {a:A2}{p1:A2}{r:(A2×Bool)}:CF (A5v a p1=some r) 204 [.agg [iU a.Hi,iU a.Lo], .agg [iU p1.Hi,iU p1.Lo]] [] none (.tup [.agg [iU r.1.Hi,iU r.1.Lo], .sb r.2]) [] none:=⟨fun h=>C0 Tryz.func204 Tryz.call204 1 (au)⟩
instance c_wide_Mul {a:A2}{p1:A2}{r:(A2×Bool)}:CF (A3j a p1=some r) 202 [.agg [iU a.Hi,iU a.Lo], .agg [iU p1.Hi,iU p1.Lo]] [] none (.tup [.agg [iU r.1.Hi,iU r.1.Lo], .sb r.2]) [] none:=⟨fun h=>C0 Tryz.func202 Tryz.call202 1 (au)⟩
theorem C07 {a:A2}{b:A2}{r:Int}(h:R8 a b=r):E9 Tryz.prog 280 [.agg [iU a.Hi,iU a.Lo], .agg [iU b.Hi,iU b.Lo]] [] (iI r) []:=
 C0 Tryz.func280 Tryz.call280 1 (au)
instance:CC 280 (∀{p0a p0b:Int}{p1a p1b:Int}{r:Int},R8 ⟨p0a,p0b⟩ ⟨p1a,p1b⟩=r->E9 Tryz.prog 280 [.agg [iU p0a,iU p0b], .agg [iU p1a,iU p1b]] [] (iI r) []):=⟨fun h=>C07 h⟩
instance c_spread_Close {a:A6}{b:A6}{p2:Int}{r:Bool}:CF (A6S a b p2=some r) 199 [.agg (C8 a), .agg (C8 b),iI p2] [] none (.sb r) [] none:=⟨fun h=>C0 Tryz.func199 Tryz.call199 1 (au)⟩
end Go.Proofs.YticmbokcamokpaaGreat
