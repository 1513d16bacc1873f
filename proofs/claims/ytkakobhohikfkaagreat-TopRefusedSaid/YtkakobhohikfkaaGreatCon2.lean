/- The contracts: each function of the program does what its function on plain data says. Made by program. -/
import Derived.Test.YtkakobhohikfkaaGreatCoh
set_option linter.unusedVariables false
set_option linter.unusedSimpArgs false
set_option linter.unnecessarySimpa false
set_option maxHeartbeats 40000000
set_option maxRecDepth 20000
namespace Go.Proofs.YtkakobhohikfkaaGreat
open Go.Vc Go.Dec Go.Win
theorem A8X {f:Int}{g:Int}{i:Int}{r:Bool}(h:A6x f g i=r):E5 Tryz.prog 142 [iI f,iI g,iI i] [] (.sb r) []:=
 C0 Tryz.func142 Tryz.call142 1 (⟨none,⟨none,⟨none,An (fun a=>An (fun b=>An (fun c=>An (fun d=>An (fun e=>(by cases h;exact (An (D4E (aR (aR (aR (aR (aR a b) c) d) e) rfl)) trivial))) (fun e=>(by cases h;exact (An (D4E (aL (aR (aR (aR (aR a b) c) d) e))) trivial)))) (fun d=>(by cases h;exact (An (D4E (aL (aL (aR (aR (aR a b) c) d)))) trivial)))) (fun c=>(by cases h;exact (An (D4E (aL (aL (aL (aR (aR a b) c))))) trivial)))) (fun b=>(by cases h;exact (An (D4E (aL (aL (aL (aL (aR a b)))))) trivial)))) (fun a=>(by cases h;exact (An (D4E (aL (aL (aL (aL (aL a)))))) trivial)))⟩⟩⟩)
instance:CC 142 (type_of% @A8X):=⟨@A8X⟩
theorem B0o {i:Int}{j:Int}{k:Int}{l:Int}{r:Bool}(h:A5m i j k l=r):E5 Tryz.prog 143 [iI i,iI j,iI k,iI l] [] (.sb r) []:=
 C0 Tryz.func143 Tryz.call143 1 (⟨none,⟨none,⟨none,An (fun a=>An (fun b=>An (fun c=>An (fun d=>An (fun e=>An (fun f=>An (fun g=>(by cases h;exact (An (D4E (aR (aR (aR (aR (aR (aR (aR a b) c) d) e) f) g) rfl)) trivial))) (fun g=>(by cases h;exact (An (D4E (aL (aR (aR (aR (aR (aR (aR a b) c) d) e) f) g))) trivial)))) (fun f=>(by cases h;exact (An (D4E (aL (aL (aR (aR (aR (aR (aR a b) c) d) e) f)))) trivial)))) (fun e=>(by cases h;exact (An (D4E (aL (aL (aL (aR (aR (aR (aR a b) c) d) e))))) trivial)))) (fun d=>(by cases h;exact (An (D4E (aL (aL (aL (aL (aR (aR (aR a b) c) d)))))) trivial)))) (fun c=>(by cases h;exact (An (D4E (aL (aL (aL (aL (aL (aR (aR a b) c))))))) trivial)))) (fun b=>(by cases h;exact (An (D4E (aL (aL (aL (aL (aL (aL (aR a b)))))))) trivial)))) (fun a=>(by cases h;exact (An (D4E (aL (aL (aL (aL (aL (aL (aL a)))))))) trivial)))⟩⟩⟩)
instance:CC 143 (type_of% @B0o):=⟨@B0o⟩
theorem B3I {k:Int}{l:Int}{m:Int}{n:Int}{o:Int}{r:Bool}(h:A9i k l m n o=r):E5 Tryz.prog 144 [iI k,iI l,iI m,iI n,iI o] [] (.sb r) []:=
 C0 Tryz.func144 Tryz.call144 1 (⟨none,⟨none,⟨none,An (fun a=>An (fun b=>An (fun c=>An (fun d=>An (fun e=>An (fun f=>An (fun g=>An (fun i=>An (fun j=>(by cases h;exact (An (D4E (aR (aR (aR (aR (aR (aR (aR (aR (aR a b) c) d) e) f) g) i) j) rfl)) trivial))) (fun j=>(by cases h;exact (An (D4E (aL (aR (aR (aR (aR (aR (aR (aR (aR a b) c) d) e) f) g) i) j))) trivial)))) (fun i=>(by cases h;exact (An (D4E (aL (aL (aR (aR (aR (aR (aR (aR (aR a b) c) d) e) f) g) i)))) trivial)))) (fun g=>(by cases h;exact (An (D4E (aL (aL (aL (aR (aR (aR (aR (aR (aR a b) c) d) e) f) g))))) trivial)))) (fun f=>(by cases h;exact (An (D4E (aL (aL (aL (aL (aR (aR (aR (aR (aR a b) c) d) e) f)))))) trivial)))) (fun e=>(by cases h;exact (An (D4E (aL (aL (aL (aL (aL (aR (aR (aR (aR a b) c) d) e))))))) trivial)))) (fun d=>(by cases h;exact (An (D4E (aL (aL (aL (aL (aL (aL (aR (aR (aR a b) c) d)))))))) trivial)))) (fun c=>(by cases h;exact (An (D4E (aL (aL (aL (aL (aL (aL (aL (aR (aR a b) c))))))))) trivial)))) (fun b=>(by cases h;exact (An (D4E (aL (aL (aL (aL (aL (aL (aL (aL (aR a b)))))))))) trivial)))) (fun a=>(by cases h;exact (An (D4E (aL (aL (aL (aL (aL (aL (aL (aL (aL a)))))))))) trivial)))⟩⟩⟩)
instance:CC 144 (type_of% @B3I):=⟨@B3I⟩
theorem A6L {i:Int}{j:Int}{k:Int}{l:Int}{r:Bool}(h:A5w i j k l=r):E5 Tryz.prog 146 [iI i,iI j,iI k,iI l] [] (.sb r) []:=
 C0 Tryz.func146 Tryz.call146 1 (⟨none,⟨none,⟨none,An (fun a=>An (fun b=>An (fun c=>An (fun d=>An (fun e=>An (fun f=>An (fun g=>(by cases h;exact (An (D4E (aR (aR (aR (aR (aR (aR (aR a b) c) d) e) f) g) rfl)) trivial))) (fun g=>(by cases h;exact (An (D4E (aL (aR (aR (aR (aR (aR (aR a b) c) d) e) f) g))) trivial)))) (fun f=>(by cases h;exact (An (D4E (aL (aL (aR (aR (aR (aR (aR a b) c) d) e) f)))) trivial)))) (fun e=>(by cases h;exact (An (D4E (aL (aL (aL (aR (aR (aR (aR a b) c) d) e))))) trivial)))) (fun d=>(by cases h;exact (An (D4E (aL (aL (aL (aL (aR (aR (aR a b) c) d)))))) trivial)))) (fun c=>(by cases h;exact (An (D4E (aL (aL (aL (aL (aL (aR (aR a b) c))))))) trivial)))) (fun b=>(by cases h;exact (An (D4E (aL (aL (aL (aL (aL (aL (aR a b)))))))) trivial)))) (fun a=>(by cases h;exact (An (D4E (aL (aL (aL (aL (aL (aL (aL a)))))))) trivial)))⟩⟩⟩)
instance:CC 146 (type_of% @A6L):=⟨@A6L⟩
theorem A8Y {g:Int}{c:Int}{d:Int}{e:Int}{f:Int}{r:Bool}(h:A0E g c d e f=r):E5 Tryz.prog 145 [iI g,iI c,iI d,iI e,iI f] [] (.sb r) []:=
 C0 Tryz.func145 Tryz.call145 1 (⟨none,⟨none,⟨none,An (fun a=>An (fun b=>⟨cK (An (cW (@A6L c d e f _ rfl) zz) (r1 (by cases h;exact (An (D4E (aR (aR a b) rfl)) trivial))))⟩) (fun b=>(by cases h;exact (An (D4E (aL (aR a b))) trivial)))) (fun a=>(by cases h;exact (An (D4E (aL (aL a))) trivial)))⟩⟩⟩)
instance:CC 145 (type_of% @A8Y):=⟨@A8Y⟩
theorem B6i {b:Int}{r:Bool}(h:B3k b=r):E5 Tryz.prog 147 [iI b] [] (.sb r) []:=
 C0 Tryz.func147 Tryz.call147 1 (⟨none,⟨none,⟨none,An (fun a=>(by cases h;exact (An (D4E (aR a rfl)) trivial))) (fun a=>(by cases h;exact (An (D4E (aL a)) trivial)))⟩⟩⟩)
instance:CC 147 (type_of% @B6i):=⟨@B6i⟩
theorem A7L {f:Int}{g:Int}{i:Int}{r:Bool}(h:A4V f g i=r):E5 Tryz.prog 148 [iI f,iI g,iI i] [] (.sb r) []:=
 C0 Tryz.func148 Tryz.call148 1 (⟨none,⟨none,⟨none,An (fun a=>An (fun b=>An (fun c=>An (fun d=>An (fun e=>(by cases h;exact (An (D4E (aR (aR (aR (aR (aR a b) c) d) e) rfl)) trivial))) (fun e=>(by cases h;exact (An (D4E (aL (aR (aR (aR (aR a b) c) d) e))) trivial)))) (fun d=>(by cases h;exact (An (D4E (aL (aL (aR (aR (aR a b) c) d)))) trivial)))) (fun c=>(by cases h;exact (An (D4E (aL (aL (aL (aR (aR a b) c))))) trivial)))) (fun b=>(by cases h;exact (An (D4E (aL (aL (aL (aL (aR a b)))))) trivial)))) (fun a=>(by cases h;exact (An (D4E (aL (aL (aL (aL (aL a)))))) trivial)))⟩⟩⟩)
instance:CC 148 (type_of% @A7L):=⟨@A7L⟩
theorem A7a {i:Int}{j:Int}{k:Int}{l:Int}{r:Bool}(h:A0d i j k l=r):E5 Tryz.prog 150 [iI i,iI j,iI k,iI l] [] (.sb r) []:=
 C0 Tryz.func150 Tryz.call150 1 (⟨none,⟨none,⟨none,An (fun a=>An (fun b=>An (fun c=>An (fun d=>An (fun e=>An (fun f=>An (fun g=>(by cases h;exact (An (D4E (aR (aR (aR (aR (aR (aR (aR a b) c) d) e) f) g) rfl)) trivial))) (fun g=>(by cases h;exact (An (D4E (aL (aR (aR (aR (aR (aR (aR a b) c) d) e) f) g))) trivial)))) (fun f=>(by cases h;exact (An (D4E (aL (aL (aR (aR (aR (aR (aR a b) c) d) e) f)))) trivial)))) (fun e=>(by cases h;exact (An (D4E (aL (aL (aL (aR (aR (aR (aR a b) c) d) e))))) trivial)))) (fun d=>(by cases h;exact (An (D4E (aL (aL (aL (aL (aR (aR (aR a b) c) d)))))) trivial)))) (fun c=>(by cases h;exact (An (D4E (aL (aL (aL (aL (aL (aR (aR a b) c))))))) trivial)))) (fun b=>(by cases h;exact (An (D4E (aL (aL (aL (aL (aL (aL (aR a b)))))))) trivial)))) (fun a=>(by cases h;exact (An (D4E (aL (aL (aL (aL (aL (aL (aL a)))))))) trivial)))⟩⟩⟩)
instance:CC 150 (type_of% @A7a):=⟨@A7a⟩
theorem B5x {a:Int}{r:Bool}(h:A5r a=r):E5 Tryz.prog 306 [iI a] [] (.sb r) []:=
 C0 Tryz.func306 Tryz.call306 1 (⟨none,⟨none,⟨none,An (fun b=>(by cases h;exact (An (D4E (aR b rfl)) trivial))) (fun b=>(by cases h;exact (An (D4E (aL b)) trivial)))⟩⟩⟩)
instance:CC 306 (type_of% @B5x):=⟨@B5x⟩
instance c_exact_Valid {a:(List A8)}{p1:Int}{r:Bool}:CF (A9w a p1=some r) 240 [lF 2 (List.map E6 a),iI p1] [] none (.sb r) [] none:=⟨fun h=>C0 Tryz.func240 Tryz.call240 1 (let E:List Nat×List Nat×((Int)->St):=([0,1,10,11],[],fun q=>[tM 12 (iI q)]);au)⟩
theorem A35 {b:Int}{r:Bool}(h:A2v b=r):E5 Tryz.prog 270 [iI b] [] (.sb r) []:=
 C0 Tryz.func270 Tryz.call270 1 (⟨none,⟨none,⟨none,An (fun a=>(by cases h;exact (An (D4E (aR a rfl)) trivial))) (fun a=>(by cases h;exact (An (D4E (aL a)) trivial)))⟩⟩⟩)
instance:CC 270 (type_of% @A35):=⟨@A35⟩
end Go.Proofs.YtkakobhohikfkaaGreat
