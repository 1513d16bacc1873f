/- The contracts: each function of the program does what its function on plain data says. Made by program. -/
import Derived.Test.YtkakobhohikfkaaGreatCoh
set_option linter.unusedVariables false
set_option linter.unusedSimpArgs false
set_option linter.unnecessarySimpa false
set_option maxHeartbeats 40000000
set_option maxRecDepth 20000
namespace Go.Proofs.YtkakobhohikfkaaGreat
open Go.Vc Go.Dec Go.Win
theorem A9h {f:Int}{g:Int}{i:Int}{r:Bool}(h:A61 f g i=r):F5 Tryz.prog 142 [iI f,iI g,iI i] [] (.sb r) []:=
 C0 Tryz.func142 Tryz.call142 1 (⟨none,⟨none,⟨none,An (fun a=>An (fun b=>An (fun c=>An (fun d=>An (fun e=>(by cases h;exact (An (D7h (aR (aR (aR (aR (aR a b) c) d) e) rfl)) trivial))) (fun e=>(by cases h;exact (An (D7h (aL (aR (aR (aR (aR a b) c) d) e))) trivial)))) (fun d=>(by cases h;exact (An (D7h (aL (aL (aR (aR (aR a b) c) d)))) trivial)))) (fun c=>(by cases h;exact (An (D7h (aL (aL (aL (aR (aR a b) c))))) trivial)))) (fun b=>(by cases h;exact (An (D7h (aL (aL (aL (aL (aR a b)))))) trivial)))) (fun a=>(by cases h;exact (An (D7h (aL (aL (aL (aL (aL a)))))) trivial)))⟩⟩⟩)
instance:CC 142 (type_of% @A9h):=⟨@A9h⟩
theorem B0L {i:Int}{j:Int}{k:Int}{l:Int}{r:Bool}(h:A5Q i j k l=r):F5 Tryz.prog 143 [iI i,iI j,iI k,iI l] [] (.sb r) []:=
 C0 Tryz.func143 Tryz.call143 1 (⟨none,⟨none,⟨none,An (fun a=>An (fun b=>An (fun c=>An (fun d=>An (fun e=>An (fun f=>An (fun g=>(by cases h;exact (An (D7h (aR (aR (aR (aR (aR (aR (aR a b) c) d) e) f) g) rfl)) trivial))) (fun g=>(by cases h;exact (An (D7h (aL (aR (aR (aR (aR (aR (aR a b) c) d) e) f) g))) trivial)))) (fun f=>(by cases h;exact (An (D7h (aL (aL (aR (aR (aR (aR (aR a b) c) d) e) f)))) trivial)))) (fun e=>(by cases h;exact (An (D7h (aL (aL (aL (aR (aR (aR (aR a b) c) d) e))))) trivial)))) (fun d=>(by cases h;exact (An (D7h (aL (aL (aL (aL (aR (aR (aR a b) c) d)))))) trivial)))) (fun c=>(by cases h;exact (An (D7h (aL (aL (aL (aL (aL (aR (aR a b) c))))))) trivial)))) (fun b=>(by cases h;exact (An (D7h (aL (aL (aL (aL (aL (aL (aR a b)))))))) trivial)))) (fun a=>(by cases h;exact (An (D7h (aL (aL (aL (aL (aL (aL (aL a)))))))) trivial)))⟩⟩⟩)
instance:CC 143 (type_of% @B0L):=⟨@B0L⟩
theorem B36 {k:Int}{l:Int}{m:Int}{n:Int}{o:Int}{r:Bool}(h:A9G k l m n o=r):F5 Tryz.prog 144 [iI k,iI l,iI m,iI n,iI o] [] (.sb r) []:=
 C0 Tryz.func144 Tryz.call144 1 (⟨none,⟨none,⟨none,An (fun a=>An (fun b=>An (fun c=>An (fun d=>An (fun e=>An (fun f=>An (fun g=>An (fun i=>An (fun j=>(by cases h;exact (An (D7h (aR (aR (aR (aR (aR (aR (aR (aR (aR a b) c) d) e) f) g) i) j) rfl)) trivial))) (fun j=>(by cases h;exact (An (D7h (aL (aR (aR (aR (aR (aR (aR (aR (aR a b) c) d) e) f) g) i) j))) trivial)))) (fun i=>(by cases h;exact (An (D7h (aL (aL (aR (aR (aR (aR (aR (aR (aR a b) c) d) e) f) g) i)))) trivial)))) (fun g=>(by cases h;exact (An (D7h (aL (aL (aL (aR (aR (aR (aR (aR (aR a b) c) d) e) f) g))))) trivial)))) (fun f=>(by cases h;exact (An (D7h (aL (aL (aL (aL (aR (aR (aR (aR (aR a b) c) d) e) f)))))) trivial)))) (fun e=>(by cases h;exact (An (D7h (aL (aL (aL (aL (aL (aR (aR (aR (aR a b) c) d) e))))))) trivial)))) (fun d=>(by cases h;exact (An (D7h (aL (aL (aL (aL (aL (aL (aR (aR (aR a b) c) d)))))))) trivial)))) (fun c=>(by cases h;exact (An (D7h (aL (aL (aL (aL (aL (aL (aL (aR (aR a b) c))))))))) trivial)))) (fun b=>(by cases h;exact (An (D7h (aL (aL (aL (aL (aL (aL (aL (aL (aR a b)))))))))) trivial)))) (fun a=>(by cases h;exact (An (D7h (aL (aL (aL (aL (aL (aL (aL (aL (aL a)))))))))) trivial)))⟩⟩⟩)
instance:CC 144 (type_of% @B36):=⟨@B36⟩
theorem A7g {i:Int}{j:Int}{k:Int}{l:Int}{r:Bool}(h:A50 i j k l=r):F5 Tryz.prog 146 [iI i,iI j,iI k,iI l] [] (.sb r) []:=
 C0 Tryz.func146 Tryz.call146 1 (⟨none,⟨none,⟨none,An (fun a=>An (fun b=>An (fun c=>An (fun d=>An (fun e=>An (fun f=>An (fun g=>(by cases h;exact (An (D7h (aR (aR (aR (aR (aR (aR (aR a b) c) d) e) f) g) rfl)) trivial))) (fun g=>(by cases h;exact (An (D7h (aL (aR (aR (aR (aR (aR (aR a b) c) d) e) f) g))) trivial)))) (fun f=>(by cases h;exact (An (D7h (aL (aL (aR (aR (aR (aR (aR a b) c) d) e) f)))) trivial)))) (fun e=>(by cases h;exact (An (D7h (aL (aL (aL (aR (aR (aR (aR a b) c) d) e))))) trivial)))) (fun d=>(by cases h;exact (An (D7h (aL (aL (aL (aL (aR (aR (aR a b) c) d)))))) trivial)))) (fun c=>(by cases h;exact (An (D7h (aL (aL (aL (aL (aL (aR (aR a b) c))))))) trivial)))) (fun b=>(by cases h;exact (An (D7h (aL (aL (aL (aL (aL (aL (aR a b)))))))) trivial)))) (fun a=>(by cases h;exact (An (D7h (aL (aL (aL (aL (aL (aL (aL a)))))))) trivial)))⟩⟩⟩)
instance:CC 146 (type_of% @A7g):=⟨@A7g⟩
theorem A9i {g:Int}{c:Int}{d:Int}{e:Int}{f:Int}{r:Bool}(h:A0Q g c d e f=r):F5 Tryz.prog 145 [iI g,iI c,iI d,iI e,iI f] [] (.sb r) []:=
 C0 Tryz.func145 Tryz.call145 1 (⟨none,⟨none,⟨none,An (fun a=>An (fun b=>⟨cK (An (cW (@A7g c d e f _ rfl) zz) (r1 (by cases h;exact (An (D7h (aR (aR a b) rfl)) trivial))))⟩) (fun b=>(by cases h;exact (An (D7h (aL (aR a b))) trivial)))) (fun a=>(by cases h;exact (An (D7h (aL (aL a))) trivial)))⟩⟩⟩)
instance:CC 145 (type_of% @A9i):=⟨@A9i⟩
theorem B6O {b:Int}{r:Bool}(h:B3R b=r):F5 Tryz.prog 147 [iI b] [] (.sb r) []:=
 C0 Tryz.func147 Tryz.call147 1 (⟨none,⟨none,⟨none,An (fun a=>(by cases h;exact (An (D7h (aR a rfl)) trivial))) (fun a=>(by cases h;exact (An (D7h (aL a)) trivial)))⟩⟩⟩)
instance:CC 147 (type_of% @B6O):=⟨@B6O⟩
theorem A78 {f:Int}{g:Int}{i:Int}{r:Bool}(h:A5v f g i=r):F5 Tryz.prog 148 [iI f,iI g,iI i] [] (.sb r) []:=
 C0 Tryz.func148 Tryz.call148 1 (⟨none,⟨none,⟨none,An (fun a=>An (fun b=>An (fun c=>An (fun d=>An (fun e=>(by cases h;exact (An (D7h (aR (aR (aR (aR (aR a b) c) d) e) rfl)) trivial))) (fun e=>(by cases h;exact (An (D7h (aL (aR (aR (aR (aR a b) c) d) e))) trivial)))) (fun d=>(by cases h;exact (An (D7h (aL (aL (aR (aR (aR a b) c) d)))) trivial)))) (fun c=>(by cases h;exact (An (D7h (aL (aL (aL (aR (aR a b) c))))) trivial)))) (fun b=>(by cases h;exact (An (D7h (aL (aL (aL (aL (aR a b)))))) trivial)))) (fun a=>(by cases h;exact (An (D7h (aL (aL (aL (aL (aL a)))))) trivial)))⟩⟩⟩)
instance:CC 148 (type_of% @A78):=⟨@A78⟩
theorem A7E {i:Int}{j:Int}{k:Int}{l:Int}{r:Bool}(h:A0v i j k l=r):F5 Tryz.prog 150 [iI i,iI j,iI k,iI l] [] (.sb r) []:=
 C0 Tryz.func150 Tryz.call150 1 (⟨none,⟨none,⟨none,An (fun a=>An (fun b=>An (fun c=>An (fun d=>An (fun e=>An (fun f=>An (fun g=>(by cases h;exact (An (D7h (aR (aR (aR (aR (aR (aR (aR a b) c) d) e) f) g) rfl)) trivial))) (fun g=>(by cases h;exact (An (D7h (aL (aR (aR (aR (aR (aR (aR a b) c) d) e) f) g))) trivial)))) (fun f=>(by cases h;exact (An (D7h (aL (aL (aR (aR (aR (aR (aR a b) c) d) e) f)))) trivial)))) (fun e=>(by cases h;exact (An (D7h (aL (aL (aL (aR (aR (aR (aR a b) c) d) e))))) trivial)))) (fun d=>(by cases h;exact (An (D7h (aL (aL (aL (aL (aR (aR (aR a b) c) d)))))) trivial)))) (fun c=>(by cases h;exact (An (D7h (aL (aL (aL (aL (aL (aR (aR a b) c))))))) trivial)))) (fun b=>(by cases h;exact (An (D7h (aL (aL (aL (aL (aL (aL (aR a b)))))))) trivial)))) (fun a=>(by cases h;exact (An (D7h (aL (aL (aL (aL (aL (aL (aL a)))))))) trivial)))⟩⟩⟩)
instance:CC 150 (type_of% @A7E):=⟨@A7E⟩
theorem B52 {a:Int}{r:Bool}(h:A5U a=r):F5 Tryz.prog 306 [iI a] [] (.sb r) []:=
 C0 Tryz.func306 Tryz.call306 1 (⟨none,⟨none,⟨none,An (fun b=>(by cases h;exact (An (D7h (aR b rfl)) trivial))) (fun b=>(by cases h;exact (An (D7h (aL b)) trivial)))⟩⟩⟩)
instance:CC 306 (type_of% @B52):=⟨@B52⟩
instance c_exact_Valid {a:(List A9)}{p1:Int}{r:Bool}:CF (A9V a p1=some r) 240 [lF 2 (List.map E5 a),iI p1] [] none (.sb r) [] none:=⟨fun h=>C0 Tryz.func240 Tryz.call240 1 (let E:List Nat×List Nat×((Int)->St):=([0,1,10,11],[],fun q=>[tM 12 (iI q)]);au)⟩
theorem A4q {b:Int}{r:Bool}(h:A2L b=r):F5 Tryz.prog 270 [iI b] [] (.sb r) []:=
 C0 Tryz.func270 Tryz.call270 1 (⟨none,⟨none,⟨none,An (fun a=>(by cases h;exact (An (D7h (aR a rfl)) trivial))) (fun a=>(by cases h;exact (An (D7h (aL a)) trivial)))⟩⟩⟩)
instance:CC 270 (type_of% @A4q):=⟨@A4q⟩
end Go.Proofs.YtkakobhohikfkaaGreat
