/- The contracts: each function of the program does what its function on plain data says. Made by program. -/
import Derived.Test.YticmbokcamokpaaGreatCoh
set_option linter.unusedVariables false
set_option linter.unusedSimpArgs false
set_option linter.unnecessarySimpa false
set_option maxHeartbeats 40000000
set_option maxRecDepth 20000
namespace Go.Proofs.YticmbokcamokpaaGreat
open Go.Vc Go.Dec Go.Win
theorem J3 {a:Int}{b:Int}{c:Int}{r:Bool}(h:B0 a b c=r):E9 Tryz.prog 151 [iI a,iI b,iI c] [] (.sb r) []:=
 C0 Tryz.func151 Tryz.call151 1 (au)
instance:CC 151 (type_of% @J3):=⟨@J3⟩
theorem K8 {d:Bool}{a:Bool}{b:Int}{r:(Bool×Int)}(h:B3 d a b=r):E9 Tryz.prog 150 [.sb d, .bsl 0 1, .ptr 1 0] [[.ptr 2 0], [.sb a], [iI b]] (.tup []) [[.ptr 2 0], [.sb r.1], [iI r.2]]:=
 C0 Tryz.func150 Tryz.call150 4 (⟨none,⟨uO [tM 1 (.bsl 0 1),tB 0 [.ptr 2 0],tB 1 [.sb (a&&d)],tB 2 [iI b]] 1000000 (An (An (fun c=>jV ((r1 (An (D8b (aR c rfl)) zz)))) (fun c=>jV ((r1 (An (D8b (aL c)) zz))))) (fun _ _=>⟨none,⟨(Sum.inr 5),⟨none,An (fun _=>⟨none,An (by first|decide|(simp only [A1];decide)|omega) (⟨[.ptr 2 0],An ⟨by first|decide|omega,by first|rfl|decide⟩ (⟨none,⟨none,⟨none,An (fun g=>absurd g (by decide)) (fun _=>lf)⟩⟩⟩)⟩)⟩) (fun g=>absurd g (by decide))⟩⟩⟩))⟩⟩)
instance:CC 150 (type_of% @K8):=⟨@K8⟩
theorem T6 {e:Bool}{a:Bool}{b:Int}{c:Int}{r:(Bool×Int×Int)}(h:F6 e a b c=r):E9 Tryz.prog 150 [.sb e, .bsl 0 2, .ptr 1 0] [[.ptr 2 0, .ptr 3 0], [.sb a], [iI b], [iI c]] (.tup []) [[.ptr 2 0, .ptr 3 0], [.sb r.1], [iI r.2.1], [iI r.2.2]]:=
 C0 Tryz.func150 Tryz.call150 5 (⟨none,⟨uO [tM 1 (.bsl 0 2),tB 0 [.ptr 2 0, .ptr 3 0],tB 1 [.sb (a&&e)],tB 2 [iI b],tB 3 [iI c]] 1000000 (An (An (fun d=>jV ((r1 (An (D8b (aR d rfl)) zz)))) (fun d=>jV ((r1 (An (D8b (aL d)) zz))))) (fun _ _=>⟨none,⟨(Sum.inr 5),⟨none,An (fun _=>⟨none,An (by first|decide|(simp only [A1];decide)|omega) (⟨[.ptr 2 0],An ⟨by first|decide|omega,by first|rfl|decide⟩ (⟨none,⟨none,⟨none,An (fun _=>⟨none,An (by first|decide|(simp only [A1];decide)|omega) (⟨[.ptr 3 0],An ⟨by first|decide|omega,by first|rfl|decide⟩ (⟨none,⟨none,⟨none,An (fun g=>absurd g (by decide)) (fun _=>lf)⟩⟩⟩)⟩)⟩) (fun g=>absurd g (by decide))⟩⟩⟩)⟩)⟩) (fun g=>absurd g (by decide))⟩⟩⟩))⟩⟩)
instance:CC 150 (type_of% @T6):=⟨@T6⟩
end Go.Proofs.YticmbokcamokpaaGreat
