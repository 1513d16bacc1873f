/- The contracts: each function of the program does what its function on plain data says. Made by program. -/
import Derived.Test.YtkakobhohikfkaaGreatCoh
import Derived.Test.YtkakobhohikfkaaGreatCon1
import Derived.Test.YtkakobhohikfkaaGreatCon8
import Derived.Test.YtkakobhohikfkaaGreatCon11
import Derived.Test.YtkakobhohikfkaaGreatCon13
import Derived.Test.YtkakobhohikfkaaGreatCon14
import Derived.Test.YtkakobhohikfkaaGreatCon18
import Derived.Test.YtkakobhohikfkaaGreatCon20
import Derived.Test.YtkakobhohikfkaaGreatCon21
set_option linter.unusedVariables false
set_option linter.unusedSimpArgs false
set_option linter.unnecessarySimpa false
set_option maxHeartbeats 40000000
set_option maxRecDepth 20000
namespace Go.Proofs.YtkakobhohikfkaaGreat
open Go.Vc Go.Dec Go.Win
theorem B51 {c:Int}{r:(D7×Int)}(h:B9M c=r):F5 Tryz.prog 13 [iI c] [] (.tup [.agg [iI r.1.Now,iI r.1.Bd,lF 58 (List.map C5 r.1.Ah)],iI r.2]) []:=
 C0 Tryz.func13 Tryz.call13 1 (⟨none,⟨none,⟨none,An (fun a=>An (fun b=>have h:=cT (oR a b) h;lf) (fun b=>have h:=cF (oR a b) h;lf)) (fun a=>have h:=cT (oL a) h;lf)⟩⟩⟩)
instance:CC 13 (type_of% @B51):=⟨@B51⟩
theorem A77 {j:O9}{r:Bool}(h:A8c j=r):F5 Tryz.prog 37 [.agg (S8 j)] [] (.sb r) []:=
 C0 Tryz.func37 Tryz.call37 1 (⟨none,⟨none,⟨none,⟨none,⟨(some (⟨Int×E2×Int×Int×(List Int)×T0×(List Int),fun q=>[tM 1 (.ptr 1 0),tB 1 (iI j.Op::(iI q.1::(List.append (P0 q.2.1) (iI q.2.2.1::(iI q.2.2.2.1::(lF 1 (List.map (eI .i64) q.2.2.2.2.1)::(iI q.2.2.2.2.2.1.Op::(iI q.2.2.2.2.2.1.A::(iI q.2.2.2.2.2.1.B::(lF 1 (List.map (eI .u8) q.2.2.2.2.2.2):: []))))))))))],fun q=>W8 q.1 q.2.1 q.2.2.1 q.2.2.2.1 q.2.2.2.2.1 q.2.2.2.2.2.1 q.2.2.2.2.2.2=r,fun _=>0⟩,1000000)),An (cD h (fun t h=>⟨none,jT (0,(E2.mk 0 0 0 0 0 0 0 0),j.T,j.V,j.Az,j.Bg,j.Ax) (An h zz)⟩) (fun t h=>⟨none,⟨none,cD h (fun u h=>⟨none,jT (0,j.Ao,j.T,j.V,j.Az,j.Bg,j.Ax) (An h zz)⟩) (fun u h=>⟨none,⟨none,cD h (fun v h=>⟨none,jT (j.ID,j.Ao,0,j.V,j.Az,j.Bg,j.Ax) (An h zz)⟩) (fun v h=>⟨none,⟨none,cD h (fun w h=>⟨none,jT (0,j.Ao,0,0,[],j.Bg,j.Ax) (An h zz)⟩) (fun w h=>⟨none,⟨none,cD h (fun x h=>⟨none,jT (0,j.Ao,j.T,j.V,j.Az,(T0.mk 0 0 0),j.Ax) (An h zz)⟩) (fun x h=>⟨none,⟨(some (⟨Bool,fun c=>[tM 1 (.ptr 1 0),tM 4 (iI j.Op),tM 27 (.sb c),tB 1 (S8 j)],fun c=>A45 j c=r,fun _=>0⟩,1000000)),An (cD h (fun s h=>jT (j.Op==6) (An h (r2 (An (D7h s) zz)))) (fun s h=>⟨none,jT (j.Op==7) (An h zz)⟩)) (fun c h=>⟨none,cD h (fun y h=>jT (j.ID,j.Ao,j.T,j.V,j.Az,j.Bg,j.Ax) (An h zz)) (fun y h=>⟨none,cD h (fun z h=>⟨none,jT (j.ID,j.Ao,j.T,j.V,j.Az,j.Bg,[]) (An h zz)⟩) (fun z h=>lf)⟩)⟩)⟩⟩)⟩⟩)⟩⟩)⟩⟩)⟩⟩)) (fun ⟨i,e,f,g,a,d,b⟩ h=>⟨none,⟨none,An (fun n=>An (fun k=>An (fun l=>An (fun m=>⟨[iI (a.length:Int)],An (lenS (eI .i64) a) (An (fun o=>An (fun p=>⟨[iI (b.length:Int)],An (lenS (eI .u8) b) (by cases h;exact (An (D7h (aR (aR (aR (aR (aR (aR n k) l) m) o) p) rfl)) trivial))⟩) (fun p=>(by cases h;exact (An (D7h (aL (aR (aR (aR (aR (aR n k) l) m) o) p))) trivial)))) (fun o=>(by cases h;exact (An (D7h (aL (aL (aR (aR (aR (aR n k) l) m) o)))) trivial))))⟩) (fun m=>(by cases h;exact (An (D7h (aL (aL (aL (aR (aR (aR n k) l) m))))) trivial)))) (fun l=>(by cases h;exact (An (D7h (aL (aL (aL (aL (aR (aR n k) l)))))) trivial)))) (fun k=>(by cases h;exact (An (D7h (aL (aL (aL (aL (aL (aR n k))))))) trivial)))) (fun n=>(by cases h;exact (An (D7h (aL (aL (aL (aL (aL (aL n))))))) trivial)))⟩⟩)⟩⟩⟩⟩⟩)
instance:CC 37 (type_of% @A77):=⟨@A77⟩
instance c_engine_order_create {j:D1}{r:(Int×D1)}:CF (U3 j=some r) 38 [.ptr 0 0] [(H7 j)] none (iI r.1) [(H7 r.2)] none:=⟨fun h=>C0 Tryz.func38 Tryz.call38 2 (au)⟩
instance c_engine_order_drop {j:D1}{r:(Int×D1)}:CF (A29 j=some r) 39 [.ptr 0 0] [(H7 j)] none (iI r.1) [(H7 r.2)] none:=⟨fun h=>C0 Tryz.func39 Tryz.call39 2 (au)⟩
instance c_engine_order_tick {j:D1}{r:(Int×D1)}:CF (A3c j=some r) 40 [.ptr 0 0] [(H7 j)] none (iI r.1) [(H7 r.2)] none:=⟨fun h=>C0 Tryz.func40 Tryz.call40 2 (let E:List Nat×List Nat×((((List A6)×Int))->St):=([0,3,32],[0],fun q=>[tM 4 (.own 776),tM 33 (iI q.2),(.tok 776, .tok 90 58 (List.map C5 q.1))]);au)⟩
instance c_engine_order_find {j:D1}{r:(A8×Bool)}:CF (A1C j=some r) 113 [.ptr 0 0] [(H7 j)] none (.tup [.agg (G5 r.1), .sb r.2]) [(H7 j)] none:=⟨fun h=>C0 Tryz.func113 Tryz.call113 2 (au)⟩
instance c_engine_order_add {j:D1}{r:(Int×D1)}:CF (A33 j=some r) 41 [.ptr 0 0] [(H7 j)] none (iI r.1) [(H7 r.2)] none:=⟨fun h=>C0 Tryz.func41 Tryz.call41 2 (au)⟩
instance c_engine_order_ask {j:D1}{r:(Int×D1)}:CF (A34 j=some r) 42 [.ptr 0 0] [(H7 j)] none (iI r.1) [(H7 r.2)] none:=⟨fun h=>C0 Tryz.func42 Tryz.call42 2 (au)⟩
instance c_engine_order_list {j:D1}{r:(Int×D1)}:CF (A0m j=some r) 43 [.ptr 0 0] [(H7 j)] none (iI r.1) [(H7 r.2)] none:=⟨fun h=>C0 Tryz.func43 Tryz.call43 2 (au)⟩
instance c_engine_order_save {j:D1}{r:(Int×D1)}:CF (A3b j=some r) 44 [.ptr 0 0] [(H7 j)] none (iI r.1) [(H7 r.2)] none:=⟨fun h=>C0 Tryz.func44 Tryz.call44 2 (au)⟩
instance c_engine_order_load {j:D1}{r:(Int×D1)}:CF (A3a j=some r) 45 [.ptr 0 0] [(H7 j)] none (iI r.1) [(H7 r.2)] none:=⟨fun h=>C0 Tryz.func45 Tryz.call45 2 (au)⟩
end Go.Proofs.YtkakobhohikfkaaGreat
