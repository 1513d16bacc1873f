/- The contracts: each function of the program does what its function on plain data says. Made by program. -/
import Derived.Test.YtkakobhohikfkaaGreatCoh
import Derived.Test.YtkakobhohikfkaaGreatCon1
import Derived.Test.YtkakobhohikfkaaGreatCon7
import Derived.Test.YtkakobhohikfkaaGreatCon8
import Derived.Test.YtkakobhohikfkaaGreatCon11
import Derived.Test.YtkakobhohikfkaaGreatCon13
import Derived.Test.YtkakobhohikfkaaGreatCon14
import Derived.Test.YtkakobhohikfkaaGreatCon15
import Derived.Test.YtkakobhohikfkaaGreatCon16
import Derived.Test.YtkakobhohikfkaaGreatCon17
import Derived.Test.YtkakobhohikfkaaGreatCon21
import Derived.Test.YtkakobhohikfkaaGreatCon23
import Derived.Test.YtkakobhohikfkaaGreatCon24
set_option linter.unusedVariables false
set_option linter.unusedSimpArgs false
set_option linter.unnecessarySimpa false
set_option maxHeartbeats 40000000
set_option maxRecDepth 20000
namespace Go.Proofs.YtkakobhohikfkaaGreat
open Go.Vc Go.Dec Go.Win
instance c_top_awake {r:Bool}:CF (B3z=some r) 9 [] [] none (.sb r) [] none:=⟨fun h=>C0 Tryz.func9 Tryz.call9 1 (au)⟩
theorem B0p {q:Int}{r:(D4×Int)}(h:A7U q=r):E5 Tryz.prog 13 [iI q] [] (.tup [.agg [iI r.1.Now,iI r.1.Bd,lF 58 (List.map C7 r.1.Ah)],iI r.2]) []:=
 C0 Tryz.func13 Tryz.call13 1 (⟨none,⟨none,⟨none,An (fun s=>An (fun t=>have h:=cT (oR s t) h;lf) (fun t=>have h:=cF (oR s t) h;lf)) (fun s=>have h:=cT (oL s) h;lf)⟩⟩⟩)
instance:CC 13 (type_of% @B0p):=⟨@B0p⟩
instance c_top_config {q:B5}{p1:Int}{r:B5}:CF (B1P q p1=some r) 51 [.agg (H6 q),iI p1] [] none (.agg (H6 r)) [] none:=⟨fun h=>C0 Tryz.func51 Tryz.call51 1 (⟨none,⟨none,⟨none,bC h fun c k h=>⟨cK (An (cW ((@c_made_Int q.Bo 4 c).pf k) zz) (r1 (⟨none,bC h fun d l h=>bC h fun e m h=>bC h fun b j h=>⟨cK (An (cW ((@c_made_Mod q.W 20 d).pf l) zz) (r1 (⟨cK (An (cW ((@c_made_Int q.K 3 e).pf m) zz) (r1 (⟨cK (An (cW ((@c_made_Int q.Cap 60 b).pf j) zz) (r1 (⟨none,bC h fun f n h=>bC h fun g o h=>⟨cK (An (cW ((@c_made_Int q.P 5 f).pf n) zz) (r1 (⟨cK (An (cW ((@c_made_Int q.Am 2 g).pf o) zz) (r1 (⟨none,bC h fun i p h=>⟨cK (An (cW ((@c_made_Mod q.Bs 20 i).pf p) zz) (r1 (⟨none,⟨(some (⟨Int,fun a=>[tM 2 (.ptr 1 0),tM 4 (.ptr 2 0),tB 1 [iI p1,iI (A1 (1+c)),iI (A1 (1+d)),iI (A1 (1+e)),iI (A1 (2+b)),iI f,iI (A1 (1+g)),iI a],tB 2 [iI 0,iI 0,iI 0,iI 0,iI 0,iI 0,iI 0,iI 0]],fun a=>A4h p1 c d e b f g a=some r,fun _=>0⟩,1000000)),An (cD h (fun s h=>⟨none,An (by decide) (jT (Int.tmod (A1 (1+i)) 2) (An h zz))⟩) (fun s h=>jT (A1 (1+i)) (An h zz))) (fun a h=>⟨none,⟨cK (An (cW (@A5k (B5.mk p1 (A1 (1+c)) (A1 (1+d)) (A1 (1+e)) (A1 (2+b)) f (A1 (1+g)) a) _ rfl) zz) (r1 lf))⟩⟩)⟩⟩)))⟩⟩)))⟩)))⟩⟩)))⟩)))⟩)))⟩⟩)))⟩⟩⟩⟩)⟩
instance c_top_command {q:E9}{p1:Int}{r:E9}:CF (A9K q p1=some r) 15 [.agg (G7 q),iI p1] [] none (.agg (G7 r)) [] none:=⟨fun h=>C0 Tryz.func15 Tryz.call15 1 (au)⟩
theorem A7K {j:E9}{r:Bool}(h:B16 j=r):E5 Tryz.prog 37 [.agg (G7 j)] [] (.sb r) []:=
 C0 Tryz.func37 Tryz.call37 1 (⟨none,⟨none,⟨none,⟨none,⟨(some (⟨Int×B5×Int×Int×(List Int)×I4×(List Int),fun q=>[tM 1 (.ptr 1 0),tB 1 (iI j.Op::(iI q.1::(List.append (H6 q.2.1) (iI q.2.2.1::(iI q.2.2.2.1::(lF 1 (List.map (eI .i64) q.2.2.2.2.1)::(iI q.2.2.2.2.2.1.Op::(iI q.2.2.2.2.2.1.A::(iI q.2.2.2.2.2.1.B::(lF 1 (List.map (eI .u8) q.2.2.2.2.2.2):: []))))))))))],fun q=>V8 q.1 q.2.1 q.2.2.1 q.2.2.2.1 q.2.2.2.2.1 q.2.2.2.2.2.1 q.2.2.2.2.2.2=r,fun _=>0⟩,1000000)),An (cD h (fun t h=>⟨none,jT (0,(B5.mk 0 0 0 0 0 0 0 0),j.T,j.V,j.Az,j.Bg,j.Ax) (An h zz)⟩) (fun t h=>⟨none,⟨none,cD h (fun u h=>⟨none,jT (0,j.Ao,j.T,j.V,j.Az,j.Bg,j.Ax) (An h zz)⟩) (fun u h=>⟨none,⟨none,cD h (fun v h=>⟨none,jT (j.ID,j.Ao,0,j.V,j.Az,j.Bg,j.Ax) (An h zz)⟩) (fun v h=>⟨none,⟨none,cD h (fun w h=>⟨none,jT (0,j.Ao,0,0,[],j.Bg,j.Ax) (An h zz)⟩) (fun w h=>⟨none,⟨none,cD h (fun x h=>⟨none,jT (0,j.Ao,j.T,j.V,j.Az,(I4.mk 0 0 0),j.Ax) (An h zz)⟩) (fun x h=>⟨none,⟨(some (⟨Bool,fun c=>[tM 1 (.ptr 1 0),tM 4 (iI j.Op),tM 27 (.sb c),tB 1 (G7 j)],fun c=>A4x j c=r,fun _=>0⟩,1000000)),An (cD h (fun s h=>jT (j.Op==6) (An h (r2 (An (D4E s) zz)))) (fun s h=>⟨none,jT (j.Op==7) (An h zz)⟩)) (fun c h=>⟨none,cD h (fun y h=>jT (j.ID,j.Ao,j.T,j.V,j.Az,j.Bg,j.Ax) (An h zz)) (fun y h=>⟨none,cD h (fun z h=>⟨none,jT (j.ID,j.Ao,j.T,j.V,j.Az,j.Bg,[]) (An h zz)⟩) (fun z h=>lf)⟩)⟩)⟩⟩)⟩⟩)⟩⟩)⟩⟩)⟩⟩)) (fun ⟨i,e,f,g,a,d,b⟩ h=>⟨none,⟨none,An (fun n=>An (fun k=>An (fun l=>An (fun m=>⟨[iI (a.length:Int)],An (J4 (eI .i64) a) (An (fun o=>An (fun p=>⟨[iI (b.length:Int)],An (J4 (eI .u8) b) (by cases h;exact (An (D4E (aR (aR (aR (aR (aR (aR n k) l) m) o) p) rfl)) trivial))⟩) (fun p=>(by cases h;exact (An (D4E (aL (aR (aR (aR (aR (aR n k) l) m) o) p))) trivial)))) (fun o=>(by cases h;exact (An (D4E (aL (aL (aR (aR (aR (aR n k) l) m) o)))) trivial))))⟩) (fun m=>(by cases h;exact (An (D4E (aL (aL (aL (aR (aR (aR n k) l) m))))) trivial)))) (fun l=>(by cases h;exact (An (D4E (aL (aL (aL (aL (aR (aR n k) l)))))) trivial)))) (fun k=>(by cases h;exact (An (D4E (aL (aL (aL (aL (aL (aR n k))))))) trivial)))) (fun n=>(by cases h;exact (An (D4E (aL (aL (aL (aL (aL (aL n))))))) trivial)))⟩⟩)⟩⟩⟩⟩⟩)
instance:CC 37 (type_of% @A7K):=⟨@A7K⟩
instance c_engine_order_create {j:D6}{r:(Int×D6)}:CF (A11 j=some r) 38 [.ptr 0 0] [(H4 j)] none (iI r.1) [(H4 r.2)] none:=⟨fun h=>C0 Tryz.func38 Tryz.call38 2 (au)⟩
instance c_engine_order_drop {j:D6}{r:(Int×D6)}:CF (A2U j=some r) 39 [.ptr 0 0] [(H4 j)] none (iI r.1) [(H4 r.2)] none:=⟨fun h=>C0 Tryz.func39 Tryz.call39 2 (au)⟩
instance c_engine_order_tick {j:D6}{r:(Int×D6)}:CF (A2V j=some r) 40 [.ptr 0 0] [(H4 j)] none (iI r.1) [(H4 r.2)] none:=⟨fun h=>C0 Tryz.func40 Tryz.call40 2 (let E:List Nat×List Nat×((((List B0)×Int))->St):=([0,3,32],[0],fun q=>[tM 4 (.own 776),tM 33 (iI q.2),(.tok 776, .tok 90 58 (List.map C7 q.1))]);au)⟩
instance c_engine_order_find {j:D6}{r:(A7×Bool)}:CF (A1k j=some r) 113 [.ptr 0 0] [(H4 j)] none (.tup [.agg (F9 r.1), .sb r.2]) [(H4 j)] none:=⟨fun h=>C0 Tryz.func113 Tryz.call113 2 (au)⟩
instance c_engine_order_add {j:D6}{r:(Int×D6)}:CF (A3K j=some r) 41 [.ptr 0 0] [(H4 j)] none (iI r.1) [(H4 r.2)] none:=⟨fun h=>C0 Tryz.func41 Tryz.call41 2 (au)⟩
instance c_engine_order_ask {j:D6}{r:(Int×D6)}:CF (A3L j=some r) 42 [.ptr 0 0] [(H4 j)] none (iI r.1) [(H4 r.2)] none:=⟨fun h=>C0 Tryz.func42 Tryz.call42 2 (au)⟩
instance c_engine_order_list {j:D6}{r:(Int×D6)}:CF (A1l j=some r) 43 [.ptr 0 0] [(H4 j)] none (iI r.1) [(H4 r.2)] none:=⟨fun h=>C0 Tryz.func43 Tryz.call43 2 (au)⟩
instance c_engine_order_save {j:D6}{r:(Int×D6)}:CF (A1m j=some r) 44 [.ptr 0 0] [(H4 j)] none (iI r.1) [(H4 r.2)] none:=⟨fun h=>C0 Tryz.func44 Tryz.call44 2 (au)⟩
instance c_engine_order_load {j:D6}{r:(Int×D6)}:CF (A56 j=some r) 45 [.ptr 0 0] [(H4 j)] none (iI r.1) [(H4 r.2)] none:=⟨fun h=>C0 Tryz.func45 Tryz.call45 2 (au)⟩
end Go.Proofs.YtkakobhohikfkaaGreat
