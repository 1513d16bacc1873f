/- The contracts: each function of the program does what its function on plain data says. Made by program. -/
import Derived.Test.YtnanpdjjnegknaaGreatCoh
set_option linter.unusedVariables false
set_option linter.unusedSimpArgs false
set_option linter.unnecessarySimpa false
set_option maxHeartbeats 40000000
set_option maxRecDepth 20000
namespace Go.Proofs.YtnanpdjjnegknaaGreat
open Go.Vc Go.Dec Go.Win
theorem K1 (b c d:Int) (r:Bool) (h:B1 b c d=r):A4 Tryz.prog 215 [iI b,iI c,iI d] [] (.sb r) []:=
 C0 Tryz.func215 Tryz.call215 1 (eN (eN (eN (An (fun a=>(by cases h;exact (An (D1S (aR a rfl)) trivial))) (fun a=>(by cases h;exact (An (D1S (aL a)) trivial)))))))
theorem N0 (d a:Bool) (b:Int) (r:Bool×Int) (h:C2 d a b=r):A4 Tryz.prog 214 [.sb d, .bsl 0 1, .ptr 1 0] [[.ptr 2 0], [.sb a], [iI b]] (.tup []) [[.ptr 2 0], [.sb r.1], [iI r.2]]:=
 C0 Tryz.func214 Tryz.call214 4 (eN (uO [tM 1 (.bsl 0 1),tB 0 [.ptr 2 0],tB 1 [.sb (a&&d)],tB 2 [iI b]] 1000000 (An (An (fun c=>jV ((r1 (An (D1S (aR c rfl)) zz)))) (fun c=>jV ((r1 (An (D1S (aL c)) zz))))) (fun _ _=>eN (eX (Sum.inr 5) (eN (An (fun _=>eN (An (by first|decide|(simp only [A2];decide)|omega) (eX [.ptr 2 0] (An ⟨by first|decide|omega,by first|rfl|decide⟩ (eN (eN (eN (An (fun g=>absurd g (by decide)) (fun _=>lf))))))))) (fun g=>absurd g (by decide)))))))))
theorem Y5 (e a:Bool) (b c:Int) (r:Bool×Int×Int) (h:F9 e a b c=r):A4 Tryz.prog 214 [.sb e, .bsl 0 2, .ptr 1 0] [[.ptr 2 0, .ptr 3 0], [.sb a], [iI b], [iI c]] (.tup []) [[.ptr 2 0, .ptr 3 0], [.sb r.1], [iI r.2.1], [iI r.2.2]]:=
 C0 Tryz.func214 Tryz.call214 5 (eN (uO [tM 1 (.bsl 0 2),tB 0 [.ptr 2 0, .ptr 3 0],tB 1 [.sb (a&&e)],tB 2 [iI b],tB 3 [iI c]] 1000000 (An (An (fun d=>jV ((r1 (An (D1S (aR d rfl)) zz)))) (fun d=>jV ((r1 (An (D1S (aL d)) zz))))) (fun _ _=>eN (eX (Sum.inr 5) (eN (An (fun _=>eN (An (by first|decide|(simp only [A2];decide)|omega) (eX [.ptr 2 0] (An ⟨by first|decide|omega,by first|rfl|decide⟩ (eN (eN (eN (An (fun _=>eN (An (by first|decide|(simp only [A2];decide)|omega) (eX [.ptr 3 0] (An ⟨by first|decide|omega,by first|rfl|decide⟩ (eN (eN (eN (An (fun g=>absurd g (by decide)) (fun _=>lf))))))))) (fun g=>absurd g (by decide)))))))))) (fun g=>absurd g (by decide)))))))))
end Go.Proofs.YtnanpdjjnegknaaGreat
