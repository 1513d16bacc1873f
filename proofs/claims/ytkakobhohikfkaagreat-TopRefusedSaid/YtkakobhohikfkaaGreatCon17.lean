/- The contracts: each function of the program does what its function on plain data says. Made by program. -/
import Derived.Test.YtkakobhohikfkaaGreatCoh
set_option linter.unusedVariables false
set_option linter.unusedSimpArgs false
set_option linter.unnecessarySimpa false
set_option maxHeartbeats 40000000
set_option maxRecDepth 20000
namespace Go.Proofs.YtkakobhohikfkaaGreat
open Go.Vc Go.Dec Go.Win
theorem A5k {j:B5}{r:B5}(h:A2R j=r):E5 Tryz.prog 122 [.agg (H6 j)] [] (.agg (H6 r)) []:=
 C0 Tryz.func122 Tryz.call122 1 (⟨none,⟨none,⟨none,⟨none,⟨none,⟨(some (⟨Int×Int×Int×Int×Int×Int×Int,fun q=>[tM 2 (.ptr 2 0),tM 3 (.ptr 260 0),tB 2 [iI 0,iI 0,iI 0,iI 0,iI 0,iI 0,iI 0,iI 0],tB 260 [iI j.Bi,iI q.1,iI q.2.1,iI q.2.2.1,iI q.2.2.2.1,iI q.2.2.2.2.1,iI q.2.2.2.2.2.1,iI q.2.2.2.2.2.2]],fun q=>Q2 j q.1 q.2.1 q.2.2.1 q.2.2.2.1 q.2.2.2.2.1 q.2.2.2.2.2.1 q.2.2.2.2.2.2=r,fun _=>0⟩,1000000)),An (cD h (fun o h=>⟨none,jT (0,j.W,0,j.Cap,0,0,0) (An h zz)⟩) (fun o h=>⟨none,⟨(some (⟨Bool,fun a=>[tM 1 (.ptr 1 0),tM 2 (.ptr 2 0),tM 3 (.ptr 260 0),tM 8 (iI j.Bi),tM 17 (.sb a),tB 1 (H6 j),tB 2 [iI 0,iI 0,iI 0,iI 0,iI 0,iI 0,iI 0,iI 0],tB 260 [iI j.Bi,iI 0,iI 0,iI 0,iI 0,iI 0,iI 0,iI 0]],fun a=>A1J j a=r,fun _=>0⟩,1000000)),An (cD h (fun m h=>jT (j.Bi==2) (An h (r2 (An (D4E m) zz)))) (fun m h=>⟨none,⟨none,cD h (fun n h=>jT (j.Bi==5) (An h (r2 (An (D4E n) zz)))) (fun n h=>⟨none,jT (j.Bi==11) (An h zz)⟩)⟩⟩)) (fun a h=>⟨none,cD h (fun p h=>⟨none,jT (0,j.W,j.K,j.Cap,0,0,0) (An h zz)⟩) (fun p h=>⟨none,⟨none,cD h (fun s h=>⟨none,jT (0,j.W,j.K,j.Cap,0,0,j.Bs) (An h zz)⟩) (fun s h=>⟨none,⟨none,cD h (fun t h=>⟨none,jT (j.Bo,j.W,j.K,j.Cap,0,0,0) (An h zz)⟩) (fun t h=>⟨none,⟨none,cD h (fun u h=>⟨none,jT (0,0,0,0,j.P,0,0) (An h zz)⟩) (fun u h=>⟨none,⟨none,cD h (fun v h=>⟨none,jT (0,j.W,0,0,0,0,0) (An h zz)⟩) (fun v h=>⟨none,⟨none,cD h (fun w h=>⟨none,jT (0,j.W,0,j.Cap,0,0,j.Bs) (An h zz)⟩) (fun w h=>⟨none,⟨none,cD h (fun k h=>⟨none,jT (0,j.W,0,j.Cap,0,j.Am,0) (An h zz)⟩) (fun k h=>⟨none,⟨none,cD h (fun l h=>⟨none,jT (0,0,j.K,j.Cap,0,0,0) (An h zz)⟩) (fun l h=>jT (0,0,0,0,0,0,0) (An h zz))⟩⟩)⟩⟩)⟩⟩)⟩⟩)⟩⟩)⟩⟩)⟩⟩)⟩)⟩⟩)) (fun ⟨b,c,d,e,f,g,i⟩ h=>lf)⟩⟩⟩⟩⟩⟩)
instance:CC 122 (type_of% @A5k):=⟨@A5k⟩
theorem A7M {b:Int}{r:Bool}(h:M6 b=r):E5 Tryz.prog 298 [iI b] [] (.sb r) []:=
 C0 Tryz.func298 Tryz.call298 1 (⟨none,⟨none,⟨none,An (fun a=>(by cases h;exact (An (D4E (aR a rfl)) trivial))) (fun a=>(by cases h;exact (An (D4E (aL a)) trivial)))⟩⟩⟩)
instance:CC 298 (type_of% @A7M):=⟨@A7M⟩
theorem B0q {b:Int}{r:Bool}(h:G8 b=r):E5 Tryz.prog 299 [iI b] [] (.sb r) []:=
 C0 Tryz.func299 Tryz.call299 1 (⟨none,⟨none,⟨none,An (fun a=>(by cases h;exact (An (D4E (aR a rfl)) trivial))) (fun a=>(by cases h;exact (An (D4E (aL a)) trivial)))⟩⟩⟩)
instance:CC 299 (type_of% @B0q):=⟨@B0q⟩
theorem B1Z {d:Int}{f:Int}{e:Int}{r:Bool}(h:M7 d f e=r):E5 Tryz.prog 224 [iI d,iI f,iI e] [] (.sb r) []:=
 C0 Tryz.func224 Tryz.call224 1 (⟨none,⟨none,⟨none,⟨cK (An (cW (@A7M d _ rfl) zz) (r1 (An (fun a=>An (fun b=>An (fun c=>⟨cK (An (cW (@B0q e _ rfl) zz) (r1 (by cases h;exact (An (D4E (aR (aR (aR a b) c) rfl)) trivial))))⟩) (fun c=>(by cases h;exact (An (D4E (aL (aR (aR a b) c))) trivial)))) (fun b=>(by cases h;exact (An (D4E (aL (aL (aR a b)))) trivial)))) (fun a=>(by cases h;exact (An (D4E (aL (aL (aL a)))) trivial))))))⟩⟩⟩⟩)
instance:CC 224 (type_of% @B1Z):=⟨@B1Z⟩
theorem A2n {b:Int}{r:Bool}(h:N3 b=r):E5 Tryz.prog 127 [iI b] [] (.sb r) []:=
 C0 Tryz.func127 Tryz.call127 1 (⟨none,⟨none,⟨none,An (fun a=>(by cases h;exact (An (D4E (aR a rfl)) trivial))) (fun a=>(by cases h;exact (An (D4E (aL a)) trivial)))⟩⟩⟩)
instance:CC 127 (type_of% @A2n):=⟨@A2n⟩
theorem A7N {b:Int}{r:Bool}(h:A1T b=r):E5 Tryz.prog 126 [iI b] [] (.sb r) []:=
 C0 Tryz.func126 Tryz.call126 1 (⟨none,⟨none,⟨none,An (fun a=>(by cases h;exact (An (D4E (aR a rfl)) trivial))) (fun a=>(by cases h;exact (An (D4E (aL a)) trivial)))⟩⟩⟩)
instance:CC 126 (type_of% @A7N):=⟨@A7N⟩
theorem A7O {b:B5}{r:Bool}(h:B2x b=r):E5 Tryz.prog 123 [.agg (H6 b)] [] (.sb r) []:=
 C0 Tryz.func123 Tryz.call123 1 (⟨none,⟨none,⟨cK (An (cW (@B1Z b.W b.Cap 0 _ rfl) zz) (r1 (⟨none,⟨none,⟨none,⟨none,cD h (fun D h=>lf) (fun D h=>⟨none,⟨(some (⟨Bool,fun a=>[tM 1 (.ptr 1 0),tM 3 (.sb (M7 b.W b.Cap 0)),tM 10 (iI b.Bi),tM 14 (.sb a),tB 1 (H6 b)],fun a=>A2J b (M7 b.W b.Cap 0) a=r,fun _=>0⟩,1000000)),An (cD h (fun z h=>jT (b.Bi==2) (An h (r3 (An (D4E z) zz)))) (fun z h=>⟨none,⟨none,cD h (fun C h=>jT (b.Bi==5) (An h (r3 (An (D4E C) zz)))) (fun C h=>⟨none,jT (b.Bi==11) (An h zz)⟩)⟩⟩)) (fun a h=>cD h (fun E h=>⟨none,⟨none,An (fun t=>⟨cK (An (cW (@A2n b.K _ rfl) zz) (r1 (by cases h;exact (An (D4E (aR t rfl)) trivial))))⟩) (fun t=>(by cases h;exact (An (D4E (aL t)) trivial)))⟩⟩) (fun E h=>⟨none,cD h (fun F h=>⟨none,⟨none,An (fun q=>⟨cK (An (cW (@A2n b.K _ rfl) zz) (r1 (An (fun s=>An (fun u=>(by cases h;exact (An (D4E (aR (aR (aR q s) u) rfl)) trivial))) (fun u=>(by cases h;exact (An (D4E (aL (aR (aR q s) u))) trivial)))) (fun s=>(by cases h;exact (An (D4E (aL (aL (aR q s)))) trivial))))))⟩) (fun q=>(by cases h;exact (An (D4E (aL (aL (aL q)))) trivial)))⟩⟩) (fun F h=>⟨none,cD h (fun v h=>⟨none,⟨none,An (fun f=>⟨cK (An (cW (@A2n b.K _ rfl) zz) (r1 (An (fun k=>⟨cK (An (cW (@A7N b.Bo _ rfl) zz) (r1 (by cases h;exact (An (D4E (aR (aR f k) rfl)) trivial))))⟩) (fun k=>(by cases h;exact (An (D4E (aL (aR f k))) trivial))))))⟩) (fun f=>(by cases h;exact (An (D4E (aL (aL f))) trivial)))⟩⟩) (fun v h=>⟨none,cD h (fun w h=>⟨none,⟨none,An (fun l=>(by cases h;exact (An (D4E (aR l rfl)) trivial))) (fun l=>(by cases h;exact (An (D4E (aL l)) trivial)))⟩⟩) (fun w h=>⟨none,cD h (fun x h=>⟨none,⟨none,An (fun m=>(by cases h;exact (An (D4E (aR m rfl)) trivial))) (fun m=>(by cases h;exact (An (D4E (aL m)) trivial)))⟩⟩) (fun x h=>⟨none,cD h (fun y h=>⟨none,⟨none,An (fun g=>An (fun n=>(by cases h;exact (An (D4E (aR g (oR n rfl))) trivial))) (fun n=>(by cases h;exact (An (D4E (aR g (oL n))) trivial)))) (fun g=>(by cases h;exact (An (D4E (aL g)) trivial)))⟩⟩) (fun y h=>⟨none,cD h (fun A h=>⟨none,⟨none,An (fun c=>An (fun d=>An (fun e=>An (fun i=>An (fun o=>(by cases h;exact (An (D4E (aR (aR (aR (aR (aR c d) e) i) o) rfl)) trivial))) (fun o=>(by cases h;exact (An (D4E (aL (aR (aR (aR (aR c d) e) i) o))) trivial)))) (fun i=>(by cases h;exact (An (D4E (aL (aL (aR (aR (aR c d) e) i)))) trivial)))) (fun e=>(by cases h;exact (An (D4E (aL (aL (aL (aR (aR c d) e))))) trivial)))) (fun d=>(by cases h;exact (An (D4E (aL (aL (aL (aL (aR c d)))))) trivial)))) (fun c=>(by cases h;exact (An (D4E (aL (aL (aL (aL (aL c)))))) trivial)))⟩⟩) (fun A h=>⟨none,cD h (fun B h=>⟨none,⟨none,⟨cK (An (cW (@A2n b.K _ rfl) zz) (r1 (An (fun j=>An (fun p=>(by cases h;exact (An (D4E (aR (aR j p) rfl)) trivial))) (fun p=>(by cases h;exact (An (D4E (aL (aR j p))) trivial)))) (fun j=>(by cases h;exact (An (D4E (aL (aL j))) trivial))))))⟩⟩⟩) (fun B h=>lf)⟩)⟩)⟩)⟩)⟩)⟩)⟩))⟩⟩)⟩⟩⟩⟩)))⟩⟩⟩)
instance:CC 123 (type_of% @A7O):=⟨@A7O⟩
theorem B0R {b:B5}{r:Int}(h:A3r b=r):E5 Tryz.prog 54 [.agg (H6 b)] [] (iI r) []:=
 C0 Tryz.func54 Tryz.call54 1 (⟨none,⟨none,⟨none,⟨cK (An (cW (@A5k b _ rfl) zz) (r1 (An (fun a=>⟨cK (An (cW (@A7O b _ rfl) zz) (r1 (An (fun c=>have h:=cT (oR a c) h;lf) (fun c=>have h:=cF (oR a c) h;lf))))⟩) (fun a=>have h:=cT (oL a) h;lf))))⟩⟩⟩⟩)
instance:CC 54 (type_of% @B0R):=⟨@B0R⟩
theorem B5B {a:Int}{r:Bool}(h:A8j a=r):E5 Tryz.prog 124 [iI a] [] (.sb r) []:=
 C0 Tryz.func124 Tryz.call124 1 (⟨none,⟨none,⟨none,An (fun b=>(by cases h;exact (An (D4E (aR b rfl)) trivial))) (fun b=>(by cases h;exact (An (D4E (aL b)) trivial)))⟩⟩⟩)
instance:CC 124 (type_of% @B5B):=⟨@B5B⟩
instance c_ref01_Bits {a:Int}{r:Int}:CF (A2G a=some r) 125 [iI a] [] none (iI r) [] none:=⟨fun h=>C0 Tryz.func125 Tryz.call125 1 (let E:List Nat×List Nat×(((Int×Int))->St):=([],[],fun q=>[tM 0 (iI q.1),tM 3 (iI q.2)]);au)⟩
instance c_ref10_Most {a:Int}{p1:Int}{r:Int}:CF (B1v a p1=some r) 55 [iI a,iI p1] [] none (iI r) [] none:=⟨fun h=>C0 Tryz.func55 Tryz.call55 1 (au)⟩
instance c_ref13_Most {a:Int}{p1:Int}{p2:Int}{r:Int}:CF (B1w a p1 p2=some r) 56 [iI a,iI p1,iI p2] [] none (iI r) [] none:=⟨fun h=>C0 Tryz.func56 Tryz.call56 1 (au)⟩
instance c_ref14_Most {a:Int}{p1:Int}{r:Int}:CF (B1x a p1=some r) 57 [iI a,iI p1] [] none (iI r) [] none:=⟨fun h=>C0 Tryz.func57 Tryz.call57 1 (au)⟩
instance c_ref23_Size {a:Int}{p1:Int}{r:Int}:CF (A2I a p1=some r) 128 [iI a,iI p1] [] none (iI r) [] none:=⟨fun h=>C0 Tryz.func128 Tryz.call128 1 (au)⟩
instance c_ref23_Most {a:Int}{p1:Int}{r:Int}:CF (B1y a p1=some r) 58 [iI a,iI p1] [] none (iI r) [] none:=⟨fun h=>C0 Tryz.func58 Tryz.call58 1 (au)⟩
instance c_ref24_Records {a:B5}{r:Int}:CF (A0f a=some r) 16 [.agg (H6 a)] [] none (iI r) [] none:=⟨fun h=>C0 Tryz.func16 Tryz.call16 1 (au)⟩
end Go.Proofs.YtkakobhohikfkaaGreat
