/- The contracts: each function of the program does what its function on plain data says. Made by program. -/
import Derived.Test.YticmbokcamokpaaGreatCoh
import Derived.Test.YticmbokcamokpaaGreatCon3
import Derived.Test.YticmbokcamokpaaGreatCon4
import Derived.Test.YticmbokcamokpaaGreatCon19
set_option linter.unusedVariables false
set_option linter.unusedSimpArgs false
set_option linter.unnecessarySimpa false
set_option maxHeartbeats 40000000
set_option maxRecDepth 20000
namespace Go.Proofs.YticmbokcamokpaaGreat
open Go.Vc Go.Dec Go.Win
instance c_wide_Sub {p0:A2}{p1:A2}{r:(A2×Bool)}:CF (B4g p0 p1=some r) 344 [.agg [iU p0.Hi,iU p0.Lo], .agg [iU p1.Hi,iU p1.Lo]] [] none (.tup [.agg [iU r.1.Hi,iU r.1.Lo], .sb r.2]) [] none:=⟨fun h=>C0 Tryz.func344 Tryz.call344 1 (au)⟩
instance c_exact_total {p0:(List A8)}{r:(Bool×A2)}:CF (A5I p0=some r) 290 [lF 2 (List.map E8 p0)] [] none (.tup [.sb r.1, .agg [iU r.2.Hi,iU r.2.Lo]]) [] none:=⟨fun h=>C0 Tryz.func290 Tryz.call290 1 (let E:List Nat×List Nat×(((Int×Int×Int×Int×Int))->St):=([3,4,5,12,13],[2],fun q=>[tM 14 (iI q.1),tB 257 [iU q.2.1,iU q.2.2.1],tB 258 [iU q.2.2.2.1,iU q.2.2.2.2]]);au)⟩
instance c_exact_Sum {p0:(List A8)}{r:(Int×Bool)}:CF (B4J p0=some r) 220 [lF 2 (List.map E8 p0)] [] none (.tup [iI r.1, .sb r.2]) [] none:=⟨fun h=>C0 Tryz.func220 Tryz.call220 1 (au)⟩
theorem B9J {a:Int}{r:Int}(h:B0E a=r):E9 Tryz.prog 345 [iI a] [] (iU r) []:=
 C0 Tryz.func345 Tryz.call345 1 (au)
instance:CC 345 (type_of% @B9J):=⟨@B9J⟩
theorem C04 {a:Int}{b:Int}{r:(Int×Bool)}(h:B9i a b=r):E9 Tryz.prog 291 [iI a,iI b] [] (.tup [iI r.1, .sb r.2]) []:=
 C0 Tryz.func291 Tryz.call291 1 (au)
instance:CC 291 (type_of% @C04):=⟨@C04⟩
theorem C03 {s:Int}{F:Int}{r:(Int×Bool)}(h:B9g s F=r):E9 Tryz.prog 292 [iI s,iI F] [] (.tup [iI r.1, .sb r.2]) []:=
 C0 Tryz.func292 Tryz.call292 1 (au)
instance:CC 292 (type_of% @C03):=⟨@C03⟩
instance c_exact_Squares {s:(List A8)}{r:(Int×Bool)}:CF (A8s s=some r) 221 [lF 2 (List.map E8 s)] [] none (.tup [iI r.1, .sb r.2]) [] none:=⟨fun h=>C0 Tryz.func221 Tryz.call221 1 (let E:List Nat×List Nat×(((Int×Int))->St):=([9,10],[],fun q=>[tM 4 (iI q.1),tM 11 (iI q.2)]);au)⟩
instance c_exact_quad_times {s:H5}{F:Int}{p2:Int}{p3:Int}{r:H5}:CF (J2 s F p2 p3=some r) 293 [.ptr 0 0,iU F,iU p2,iI p3] [(A0j s)] none (.tup []) [(A0j r)] none:=⟨fun h=>C0 Tryz.func293 Tryz.call293 2 (⟨none,⟨cK (An (cW (@A6u F p2 _ rfl) zz) (r1 (⟨none,⟨none,bC h fun D p h=>bC h fun g t h=>bC h fun a u h=>bC h fun z k h=>bC h fun A l h=>An (N7 (eI .u64) p) (⟨[iU g],An (P8 (eI .u64) t) (⟨cK (An (cW ((@c_math_bits_Add64 g (Y1 F p2).2 0 a).pf u) zz) (r1 (An (N7 (eI .u64) k) (An (B3q (AV.int .u64) l) (⟨none,⟨lO h (fun q=>[tM 0 (.ptr 0 0),tM 8 (iU q.1),tM 10 (iU q.2.1),tM 11 (iI q.2.2.1),tB 0 [iU q.2.2.2.1,iU q.2.2.2.2.1,iU q.2.2.2.2.2.1,iU q.2.2.2.2.2.2]]) fun H h=>An (jT (_,H) (An h zz)) (nx fun ⟨i,b,m,c,d,e,f⟩ m1 x1 h hl1 hr1=>⟨none,cD h (fun G h=>⟨none,bC h fun E v h=>bC h fun j w h=>bC h fun x y h=>bC h fun B n h=>bC h fun C o h=>An (N7 (eI .u64) v) (⟨[iU j],An (P8 (eI .u64) w) (⟨cK (An (cW ((@c_math_bits_Add64 j i b x).pf y) zz) (r1 (An (N7 (eI .u64) n) (An (B3q (AV.int .u64) o) (⟨none,⟨none,jR h hl1 zz⟩⟩)))))⟩)⟩)⟩) (fun G h=>have h:=W1 h hr1;lf)⟩)⟩⟩)))))⟩)⟩)⟩⟩)))⟩⟩)⟩
instance c_exact_minus {s:H5}{F:H5}{r:H5}:CF (A77 s F=some r) 295 [.agg (A0j s), .agg (A0j F)] [] none (.agg (A0j r)) [] none:=⟨fun h=>C0 Tryz.func295 Tryz.call295 1 (⟨none,⟨none,⟨none,⟨lO h (fun q=>[tM 2 (.ptr 1 0),tM 3 (.ptr 2 0),tM 4 (.ptr 3 0),tM 5 (iU q.1),tM 7 (iI q.2.1),tB 1 [iU q.2.2.1,iU q.2.2.2.1,iU q.2.2.2.2.1,iU q.2.2.2.2.2],tB 2 (A0j F),tB 3 [iU 0,iU 0,iU 0,iU 0]]) fun H h=>An (jT (_,H) (An h zz)) (nx fun ⟨e,k,a,b,c,d⟩ m1 x1 h hl1 hr1=>⟨none,cD h (fun G h=>⟨none,⟨none,bC h fun w l h=>bC h fun f m h=>bC h fun x n h=>bC h fun g o h=>bC h fun p t h=>bC h fun u i h=>bC h fun v j h=>An (N7 (eI .u64) l) (⟨[iU f],An (P8 (eI .u64) m) (An (N7 (eI .u64) n) (⟨[iU g],An (P8 (eI .u64) o) (⟨cK (An (cW ((@c_math_bits_Sub64 f g e p).pf t) zz) (r1 (An (N7 (eI .u64) i) (An (B3q (AV.int .u64) j) (⟨none,jR h hl1 zz⟩)))))⟩)⟩))⟩)⟩⟩) (fun G h=>have h:=W1 h hr1;lf)⟩)⟩⟩⟩⟩)⟩
instance c_math_bits_LeadingZeros64 {s:Int}{r:Int}:CF (A6J s=some r) 377 [iU s] [] none (iI r) [] none:=⟨fun h=>C0 Tryz.func377 Tryz.call377 1 (au)⟩
end Go.Proofs.YticmbokcamokpaaGreat
