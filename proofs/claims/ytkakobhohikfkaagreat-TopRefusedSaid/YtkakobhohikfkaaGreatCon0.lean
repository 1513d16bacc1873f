/- The contracts: each function of the program does what its function on plain data says. Made by program. -/
import Derived.Test.YtkakobhohikfkaaGreatCoh
set_option linter.unusedVariables false
set_option linter.unusedSimpArgs false
set_option linter.unnecessarySimpa false
set_option maxHeartbeats 40000000
set_option maxRecDepth 20000
namespace Go.Proofs.YtkakobhohikfkaaGreat
open Go.Vc Go.Dec Go.Win
theorem I8 {b:Int}{c:Int}{d:Int}{r:Bool}(h:A9 b c d=r):E5 Tryz.prog 141 [iI b,iI c,iI d] [] (.sb r) []:=
 C0 Tryz.func141 Tryz.call141 1 (⟨none,⟨none,⟨none,An (fun a=>(by cases h;exact (An (D4E (aR a rfl)) trivial))) (fun a=>(by cases h;exact (An (D4E (aL a)) trivial)))⟩⟩⟩)
instance:CC 141 (type_of% @I8):=⟨@I8⟩
theorem K2 {d:Bool}{a:Bool}{b:Int}{r:(Bool×Int)}(h:B3 d a b=r):E5 Tryz.prog 140 [.sb d, .bsl 0 1, .ptr 1 0] [[.ptr 2 0], [.sb a], [iI b]] (.tup []) [[.ptr 2 0], [.sb r.1], [iI r.2]]:=
 C0 Tryz.func140 Tryz.call140 4 (⟨none,⟨uO [tM 1 (.bsl 0 1),tB 0 [.ptr 2 0],tB 1 [.sb (a&&d)],tB 2 [iI b]] 1000000 (An (An (fun c=>jV ((r1 (An (D4E (aR c rfl)) zz)))) (fun c=>jV ((r1 (An (D4E (aL c)) zz))))) (fun _ _=>⟨none,⟨(Sum.inr 5),⟨none,An (fun _=>⟨none,An (by first|decide|(simp only [A1];decide)|omega) (⟨[.ptr 2 0],An ⟨by first|decide|omega,by first|rfl|decide⟩ (⟨none,⟨none,⟨none,An (fun g=>absurd g (by decide)) (fun _=>lf)⟩⟩⟩)⟩)⟩) (fun g=>absurd g (by decide))⟩⟩⟩))⟩⟩)
instance:CC 140 (type_of% @K2):=⟨@K2⟩
theorem R9 {e:Bool}{a:Bool}{b:Int}{c:Int}{r:(Bool×Int×Int)}(h:F3 e a b c=r):E5 Tryz.prog 140 [.sb e, .bsl 0 2, .ptr 1 0] [[.ptr 2 0, .ptr 3 0], [.sb a], [iI b], [iI c]] (.tup []) [[.ptr 2 0, .ptr 3 0], [.sb r.1], [iI r.2.1], [iI r.2.2]]:=
 C0 Tryz.func140 Tryz.call140 5 (⟨none,⟨uO [tM 1 (.bsl 0 2),tB 0 [.ptr 2 0, .ptr 3 0],tB 1 [.sb (a&&e)],tB 2 [iI b],tB 3 [iI c]] 1000000 (An (An (fun d=>jV ((r1 (An (D4E (aR d rfl)) zz)))) (fun d=>jV ((r1 (An (D4E (aL d)) zz))))) (fun _ _=>⟨none,⟨(Sum.inr 5),⟨none,An (fun _=>⟨none,An (by first|decide|(simp only [A1];decide)|omega) (⟨[.ptr 2 0],An ⟨by first|decide|omega,by first|rfl|decide⟩ (⟨none,⟨none,⟨none,An (fun _=>⟨none,An (by first|decide|(simp only [A1];decide)|omega) (⟨[.ptr 3 0],An ⟨by first|decide|omega,by first|rfl|decide⟩ (⟨none,⟨none,⟨none,An (fun g=>absurd g (by decide)) (fun _=>lf)⟩⟩⟩)⟩)⟩) (fun g=>absurd g (by decide))⟩⟩⟩)⟩)⟩) (fun g=>absurd g (by decide))⟩⟩⟩))⟩⟩)
instance:CC 140 (type_of% @R9):=⟨@R9⟩
end Go.Proofs.YtkakobhohikfkaaGreat
