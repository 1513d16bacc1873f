/- The contracts: each function of the program does what its function on plain data says. Made by program. -/
import Derived.Test.YtkakobhohikfkaaGreatCoh
import Derived.Test.YtkakobhohikfkaaGreatCon2
import Derived.Test.YtkakobhohikfkaaGreatCon3
set_option linter.unusedVariables false
set_option linter.unusedSimpArgs false
set_option linter.unnecessarySimpa false
set_option maxHeartbeats 40000000
set_option maxRecDepth 20000
namespace Go.Proofs.YtkakobhohikfkaaGreat
open Go.Vc Go.Dec Go.Win
theorem B5y {c:Int}{d:Int}{e:Int}{f:Int}{g:Int}{r:Bool}(h:Y6 c d e f g=r):E5 Tryz.prog 308 [iI c,iI d,iI e,iI f,iI g] [] (.sb r) []:=
 C0 Tryz.func308 Tryz.call308 1 (⟨none,⟨none,⟨none,An (fun a=>An (fun b=>An (fun i=>An (fun j=>(by cases h;exact (An (D4E (aR (aR (aR (aR a b) i) j) rfl)) trivial))) (fun j=>(by cases h;exact (An (D4E (aL (aR (aR (aR a b) i) j))) trivial)))) (fun i=>(by cases h;exact (An (D4E (aL (aL (aR (aR a b) i)))) trivial)))) (fun b=>(by cases h;exact (An (D4E (aL (aL (aL (aR a b))))) trivial)))) (fun a=>(by cases h;exact (An (D4E (aL (aL (aL (aL a))))) trivial)))⟩⟩⟩)
instance:CC 308 (type_of% @B5y):=⟨@B5y⟩
instance c_marks_Valid {c:(List A6)}{d:Int}{e:Int}{f:Int}{g:Int}{p5:Int}{r:Bool}:CF (A6v c d e f g p5=some r) 245 [lF 7 (List.map C4 c),iI d,iI e,iI f,iI g,iI p5] [] none (.sb r) [] none:=⟨fun h=>C0 Tryz.func245 Tryz.call245 1 (let E:List Nat×List Nat×((Int)->St):=([0,1,2,3,4,5,23,24],[],fun q=>[tM 25 (iI q)]);au)⟩
theorem B4P {a:Int}{b:Int}{r:(Int×Bool)}(h:B7w a b=r):E5 Tryz.prog 271 [iI a,iI b] [] (.tup [iI r.1, .sb r.2]) []:=
 C0 Tryz.func271 Tryz.call271 1 (⟨none,⟨none,⟨none,⟨uO [tM 6 (iI (A1 (a-b))),tM 21 (.sb ((!((decide (a>=0))==(decide (b>=0))))&&(!((decide ((A1 (a-b))>=0))==(decide (a>=0))))))] 1000000 (An (An (fun c=>jV ((r2 (An (D4E (aR c rfl)) trivial)))) (fun c=>jV ((r2 (An (D4E (aL c)) trivial))))) (fun _ _=>cD h (fun d h=>lf) (fun d h=>lf)))⟩⟩⟩⟩)
instance:CC 271 (type_of% @B4P):=⟨@B4P⟩
theorem A7P {a:A6}{b:Int}{r:Int}(h:T3 a b=r):E5 Tryz.prog 197 [.agg (C4 a),iI b] [] (iI r) []:=
 C0 Tryz.func197 Tryz.call197 1 (⟨none,⟨none,⟨none,cD h (fun c h=>lf) (fun c h=>⟨none,cD h (fun d h=>lf) (fun d h=>⟨none,cD h (fun e h=>lf) (fun e h=>⟨none,cD h (fun f h=>⟨none,⟨cK (An (cW (@B4P a.Bs a.Bt _ rfl) zz) (r1 lf))⟩⟩) (fun f h=>lf)⟩)⟩)⟩)⟩⟩⟩)
instance:CC 197 (type_of% @A7P):=⟨@A7P⟩
theorem A8Z {a:A6}{c:A6}{b:Int}{d:Int}{r:Bool}(h:M3 a c b d=r):E5 Tryz.prog 165 [.agg (C4 a), .agg (C4 c),iI b,iI d] [] (.sb r) []:=
 C0 Tryz.func165 Tryz.call165 1 (⟨none,⟨none,⟨cK (An (cW (@A7P c b _ rfl) zz) (r1 (⟨cK (An (cW (@A7P a b _ rfl) zz) (r1 lf))⟩)))⟩⟩⟩)
instance:CC 165 (type_of% @A8Z):=⟨@A8Z⟩
instance c_smooth_Validate {a:C9}{r:Int}:CF (Z2 a=some r) 160 [.agg (L3 a)] [] none (iI r) [] none:=⟨fun h=>C0 Tryz.func160 Tryz.call160 1 (let E:List Nat×List Nat×((Int)->St):=([1,35,36],[1],fun q=>[tM 37 (iI q)]);au)⟩
theorem B23 {g:A6}{r:Bool}(h:A3s g=r):E5 Tryz.prog 246 [.agg (C4 g)] [] (.sb r) []:=
 C0 Tryz.func246 Tryz.call246 1 (⟨none,⟨none,⟨none,An (fun a=>An (fun b=>An (fun c=>An (fun d=>An (fun e=>An (fun f=>have h:=cT (oR (oR (oR (oR (oR a b) c) d) e) f) h;lf) (fun f=>have h:=cF (oR (oR (oR (oR (oR a b) c) d) e) f) h;lf)) (fun e=>have h:=cT (oL (oR (oR (oR (oR a b) c) d) e)) h;lf)) (fun d=>have h:=cT (oL (oL (oR (oR (oR a b) c) d))) h;lf)) (fun c=>have h:=cT (oL (oL (oL (oR (oR a b) c)))) h;lf)) (fun b=>have h:=cT (oL (oL (oL (oL (oR a b))))) h;lf)) (fun a=>have h:=cT (oL (oL (oL (oL (oL a))))) h;lf)⟩⟩⟩)
instance:CC 246 (type_of% @B23):=⟨@B23⟩
theorem B5E {a:A6}{r:Int}(h:A5O a=r):E5 Tryz.prog 248 [.agg (C4 a)] [] (iI r) []:=
 C0 Tryz.func248 Tryz.call248 1 lf
instance:CC 248 (type_of% @B5E):=⟨@B5E⟩
theorem A0M {a:Int}{b:Int}{r:(Int×Int)}(h:Q7 a b=r):E5 Tryz.prog 309 [iU a,iU b] [] (.tup [iU r.1,iU r.2]) []:=
 C0 Tryz.func309 Tryz.call309 1 (⟨none,⟨none,⟨none,An (by decide) (⟨none,⟨none,An (by decide) (⟨none,⟨none,An (by decide) (⟨none,⟨none,An (by decide) (⟨none,⟨none,An (by decide) lf⟩⟩)⟩⟩)⟩⟩)⟩⟩)⟩⟩⟩)
instance:CC 309 (type_of% @A0M):=⟨@A0M⟩
theorem A4w {a:Int}{b:Int}{r:A2}(h:P3 a b=r):E5 Tryz.prog 247 [iU a,iU b] [] (.agg [iU r.Hi,iU r.Lo]) []:=
 C0 Tryz.func247 Tryz.call247 1 (⟨none,⟨none,⟨cK (An (cW (@A0M a b _ rfl) zz) (r1 lf))⟩⟩⟩)
instance:CC 247 (type_of% @A4w):=⟨@A4w⟩
theorem B1d {a:Int}{r:A2}(h:J8 a=r):E5 Tryz.prog 172 [iU a] [] (.agg [iU r.Hi,iU r.Lo]) []:=
 C0 Tryz.func172 Tryz.call172 1 lf
instance:CC 172 (type_of% @B1d):=⟨@B1d⟩
instance c_math_bits_Add64 {a:Int}{p1:Int}{p2:Int}{r:(Int×Int)}:CF (N2 a p1 p2=some r) 250 [iU a,iU p1,iU p2] [] none (.tup [iU r.1,iU r.2]) [] none:=⟨fun h=>C78 Tryz.func250 (by kernel_rfl) (by kernel_rfl) (by kernel_rfl) (by kernel_rfl) a p1 p2 r h⟩
instance c_wide_Add {a:A2}{p1:A2}{r:(A2×Bool)}:CF (A32 a p1=some r) 173 [.agg [iU a.Hi,iU a.Lo], .agg [iU p1.Hi,iU p1.Lo]] [] none (.tup [.agg [iU r.1.Hi,iU r.1.Lo], .sb r.2]) [] none:=⟨fun h=>C0 Tryz.func173 Tryz.call173 1 (au)⟩
instance c_wide_Mul {a:A2}{p1:A2}{r:(A2×Bool)}:CF (A1Z a p1=some r) 171 [.agg [iU a.Hi,iU a.Lo], .agg [iU p1.Hi,iU p1.Lo]] [] none (.tup [.agg [iU r.1.Hi,iU r.1.Lo], .sb r.2]) [] none:=⟨fun h=>C0 Tryz.func171 Tryz.call171 1 (au)⟩
theorem A7Q {a:A2}{b:A2}{r:Int}(h:R1 a b=r):E5 Tryz.prog 249 [.agg [iU a.Hi,iU a.Lo], .agg [iU b.Hi,iU b.Lo]] [] (iI r) []:=
 C0 Tryz.func249 Tryz.call249 1 (⟨none,⟨none,⟨uO [tM 2 (.ptr 1 0),tM 3 (.ptr 2 0),tM 5 (.sb ((decide (a.Hi<b.Hi))||((a.Hi==b.Hi)&&(decide (a.Lo<b.Lo))))),tB 1 [iU a.Hi,iU a.Lo],tB 2 [iU b.Hi,iU b.Lo]] 1000000 (An (An (fun c=>An (fun d=>jV ((r1 (An (D4E (oR c (aR d rfl))) zz)))) (fun d=>jV ((r1 (An (D4E (oR c (aL d))) zz))))) (fun c=>jV ((r1 (An (D4E (oL c)) zz))))) (fun _ _=>cD h (fun e h=>lf) (fun e h=>⟨none,cD h (fun f h=>lf) (fun f h=>lf)⟩)))⟩⟩⟩)
instance:CC 249 (∀{p0a p0b:Int}{p1a p1b:Int}{r:Int},R1 ⟨p0a,p0b⟩ ⟨p1a,p1b⟩=r->E5 Tryz.prog 249 [.agg [iU p0a,iU p0b], .agg [iU p1a,iU p1b]] [] (iI r) []):=⟨fun h=>A7Q h⟩
instance c_spread_Close {a:A6}{b:A6}{p2:Int}{r:Bool}:CF (A5d a b p2=some r) 168 [.agg (C4 a), .agg (C4 b),iI p2] [] none (.sb r) [] none:=⟨fun h=>C0 Tryz.func168 Tryz.call168 1 (au)⟩
instance c_spread_Validate {a:D1}{r:Int}:CF (Z3 a=some r) 166 [.agg (K3 a)] [] none (iI r) [] none:=⟨fun h=>C0 Tryz.func166 Tryz.call166 1 (let E:List Nat×List Nat×((Int)->St):=([1],[1],fun q=>[tM 3 (iI q)]);au)⟩
instance c_poly_Validate {a:E0}{r:Int}:CF (A1e a=some r) 169 [.agg (O9 a)] [] none (iI r) [] none:=⟨fun h=>C0 Tryz.func169 Tryz.call169 1 (let E:List Nat×List Nat×((Int)->St):=([1,3],[1,521],fun q=>[tM 4 (iI q)]);au)⟩
instance c_halve_Validate {a:F1}{r:Int}:CF (A0t a=some r) 174 [.agg [iI a.Now,lF 1 (List.map (eI .i64) a.Bn)]] [] none (iI r) [] none:=⟨fun h=>C0 Tryz.func174 Tryz.call174 1 (let E:List Nat×List Nat×((Int)->St):=([1,26,27],[1],fun q=>[tM 28 (iI q)]);au)⟩
theorem A69 {a:Bool}{b:Int}{c:Int}{r:Bool}(h:W6 a b c=r):E5 Tryz.prog 176 [.sb a,iI b,iI c] [] (.sb r) []:=
 C0 Tryz.func176 Tryz.call176 1 (⟨none,⟨none,cD h (fun d h=>lf) (fun d h=>lf)⟩⟩)
instance:CC 176 (type_of% @A69):=⟨@A69⟩
instance c_extreme_Validate {a:B8}{r:Int}:CF (X0 a=some r) 175 [.agg (I9 a)] [] none (iI r) [] none:=⟨fun h=>C0 Tryz.func175 Tryz.call175 1 (let E:List Nat×List Nat×((Int)->St):=([1,22,23],[1],fun q=>[tM 24 (iI q)]);au)⟩
instance c_chain_Validate {a:B7}{r:Int}:CF (P9 a=some r) 251 [.agg (F4 a)] [] none (iI r) [] none:=⟨fun h=>C0 Tryz.func251 Tryz.call251 1 (let E:List Nat×List Nat×((Int)->St):=([1,58,59],[1],fun q=>[tM 60 (iI q)]);au)⟩
instance c_sample_Validate {a:E4}{r:Int}:CF (N4 a=some r) 177 [.agg [lF 5 (List.map F4 a.Am)]] [] none (iI r) [] none:=⟨fun h=>C0 Tryz.func177 Tryz.call177 1 (let E:List Nat×List Nat×((Int)->St):=([1,17,18],[1],fun q=>[tM 19 (iI q)]);au)⟩
instance c_summary_most {a:Int}{b:Int}{r:Int}:CF (A3t a b=some r) 181 [iI a,iI b] [] none (iI r) [] none:=⟨fun h=>C0 Tryz.func181 Tryz.call181 1 (au)⟩
end Go.Proofs.YtkakobhohikfkaaGreat
