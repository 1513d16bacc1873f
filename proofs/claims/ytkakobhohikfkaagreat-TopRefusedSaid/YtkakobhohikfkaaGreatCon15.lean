/- The contracts: each function of the program does what its function on plain data says. Made by program. -/
import Derived.Test.YtkakobhohikfkaaGreatCoh
import Derived.Test.YtkakobhohikfkaaGreatCon4
import Derived.Test.YtkakobhohikfkaaGreatCon7
set_option linter.unusedVariables false
set_option linter.unusedSimpArgs false
set_option linter.unnecessarySimpa false
set_option maxHeartbeats 40000000
set_option maxRecDepth 20000
namespace Go.Proofs.YtkakobhohikfkaaGreat
open Go.Vc Go.Dec Go.Win
theorem A7R {a:Int}{r:Int}(h:B0m a=r):E5 Tryz.prog 326 [iI a] [] (iU r) []:=
 C0 Tryz.func326 Tryz.call326 1 (⟨none,⟨none,cD h (fun b h=>lf) (fun b h=>lf)⟩⟩)
instance:CC 326 (type_of% @A7R):=⟨@A7R⟩
theorem A5l {a:Int}{b:Int}{r:(Bool×A2)}(h:G1 a b=r):E5 Tryz.prog 278 [iI a,iI b] [] (.tup [.sb r.1, .agg [iU r.2.Hi,iU r.2.Lo]]) []:=
 C0 Tryz.func278 Tryz.call278 1 (⟨none,⟨none,⟨cK (An (cW (@A7R a _ rfl) zz) (r1 (⟨cK (An (cW (@A7R b _ rfl) zz) (r1 (⟨cK (An (cW (@A4w (B0m a) (B0m b) _ rfl) zz) (r1 lf))⟩)))⟩)))⟩⟩⟩)
instance:CC 278 (type_of% @A5l):=⟨@A5l⟩
theorem B5F {a:Int}{b:Int}{c:Int}{d:Int}{r:Int}(h:C0c a b c d=r):E5 Tryz.prog 208 [iI a,iI b,iI c,iI d] [] (iI r) []:=
 C0 Tryz.func208 Tryz.call208 1 (⟨none,⟨none,⟨cK (An (cW (@A5l a b _ rfl) zz) (r1 (⟨none,⟨cK (An (cW (@A5l c d _ rfl) zz) (r1 (⟨none,⟨uO [tM 9 (.sb ((G1 a b).1&&(!(N9 (G1 a b).2)))),tM 10 (.ptr 263 0),tM 11 (.sb ((G1 c d).1&&(!(N9 (G1 c d).2)))),tM 12 (.ptr 519 0),tB 263 [iU (G1 a b).2.Hi,iU (G1 a b).2.Lo],tB 519 [iU (G1 c d).2.Hi,iU (G1 c d).2.Lo]] 1000000 (An (An (fun e=>⟨cK (An (cW (@A7S (G1 a b).2 _ rfl) zz) (r1 (An (fun f=>⟨cK (An (cW (@A7S (G1 c d).2 _ rfl) zz) (r1 (jV ((r1 (An (D4E (aR e rfl)) (An (D4E (aR f rfl)) zz)))))))⟩) (fun f=>jV ((r1 (An (D4E (aR e rfl)) (An (D4E (aL f)) zz))))))))⟩) (fun e=>An (fun g=>⟨cK (An (cW (@A7S (G1 c d).2 _ rfl) zz) (r1 (jV ((r1 (An (D4E (aL e)) (An (D4E (aR g rfl)) zz)))))))⟩) (fun g=>jV ((r1 (An (D4E (aL e)) (An (D4E (aL g)) zz))))))) (fun _ _=>⟨none,⟨uO [tM 9 (.sb ((G1 a b).1&&(!(N9 (G1 a b).2)))),tM 10 (.ptr 263 0),tM 11 (.sb ((G1 c d).1&&(!(N9 (G1 c d).2)))),tM 12 (.ptr 519 0),tM 37 (.sb (((G1 a b).1&&(!(N9 (G1 a b).2)))&&(!((G1 c d).1&&(!(N9 (G1 c d).2)))))),tB 263 [iU (G1 a b).2.Hi,iU (G1 a b).2.Lo],tB 519 [iU (G1 c d).2.Hi,iU (G1 c d).2.Lo]] 2000000 (An (An (fun i=>jV ((r3 (An (D4E (aR i rfl)) zz)))) (fun i=>jV ((r3 (An (D4E (aL i)) zz))))) (fun _ _=>cD h (fun k h=>lf) (fun k h=>⟨none,⟨uO [tM 9 (.sb ((G1 a b).1&&(!(N9 (G1 a b).2)))),tM 10 (.ptr 263 0),tM 12 (.ptr 519 0),tM 43 (.sb (((G1 c d).1&&(!(N9 (G1 c d).2)))&&(!((G1 a b).1&&(!(N9 (G1 a b).2)))))),tB 263 [iU (G1 a b).2.Hi,iU (G1 a b).2.Lo],tB 519 [iU (G1 c d).2.Hi,iU (G1 c d).2.Lo]] 3000000 (An (An (fun j=>jV ((r2 (An (D4E (aR j rfl)) zz)))) (fun j=>jV ((r2 (An (D4E (aL j)) zz))))) (fun _ _=>cD h (fun l h=>lf) (fun l h=>⟨none,cD h (fun m h=>⟨none,⟨cK (An (cW (@A7Q (G1 c d).2 (G1 a b).2 _ rfl) zz) (r1 lf))⟩⟩) (fun m h=>⟨none,⟨cK (An (cW (@A7Q (G1 a b).2 (G1 c d).2 _ rfl) zz) (r1 lf))⟩⟩)⟩)))⟩⟩)))⟩⟩))⟩⟩)))⟩⟩)))⟩⟩⟩)
instance:CC 208 (type_of% @B5F):=⟨@B5F⟩
instance c_ratio_Compare {a:A5}{b:A5}{r:Int}:CF (A4b a b=some r) 107 [.agg [iI a.Bu,iI a.Bp], .agg [iI b.Bu,iI b.Bp]] [] none (iI r) [] none:=⟨fun h=>C0 Tryz.func107 Tryz.call107 1 (au)⟩
instance c_bounds_Valid {a:C5}{r:Bool}:CF (A4P a=some r) 34 [.agg (Q1 a)] [] none (.sb r) [] none:=⟨fun h=>C0 Tryz.func34 Tryz.call34 1 (au)⟩
end Go.Proofs.YtkakobhohikfkaaGreat
