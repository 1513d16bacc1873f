/- The contracts: each function of the program does what its function on plain data says. Made by program. -/
import Derived.Test.YtkakobhohikfkaaGreatCoh
import Derived.Test.YtkakobhohikfkaaGreatCon14
import Derived.Test.YtkakobhohikfkaaGreatCon25
import Derived.Test.YtkakobhohikfkaaGreatCon18
import Derived.Test.YtkakobhohikfkaaGreatCon24
set_option linter.unusedVariables false
set_option linter.unusedSimpArgs false
set_option linter.unnecessarySimpa false
set_option maxHeartbeats 40000000
set_option maxRecDepth 20000
namespace Go.Proofs.YtkakobhohikfkaaGreat
open Go.Vc Go.Dec Go.Win
instance c_engine_Apply {p0:D4}{p1:E9}{r:(D4×G9)}:CF (A0N p0 p1=some r) 11 [.agg [iI p0.Now,iI p0.Bd,lF 58 (List.map C7 p0.Ah)], .agg (G7 p1)] [] none (.tup [.agg [iI r.1.Now,iI r.1.Bd,lF 58 (List.map C7 r.1.Ah)], .agg (A36 r.2)]) [] none:=⟨fun h=>by
 refine C0 Tryz.func11 Tryz.call11 1 ?_
 delta A0N at h
 refine ⟨none,⟨none,?_⟩⟩
 obtain ⟨c,d,h⟩:=bS h
 refine ⟨cK (An (cW ((@c_snapshot_Validate p0 c).pf d) (r2 (fr trivial))) (r1 ?_))⟩
 refine ⟨none,cD h (fun g1 h=> ?_) (fun g1 h=> ?_)⟩
 first|cases h|rw [<-oJ h]
 exact ⟨none,r2 (fr (X4 (r2 trivial)))⟩
 refine ⟨none,⟨cK (An (cW (@A7K p1 _ rfl) (X4 (fr (r3 (fr trivial))))) (r1 ?_))⟩⟩
 refine cD h (fun g2 h=> ?_) (fun g2 h=> ?_)
 first|cases h|rw [<-oJ h]
 exact ⟨none,r2 (fr (X4 (r2 trivial)))⟩
 refine ⟨none,⟨(some none),?_⟩⟩
 refine cE h (fun g3 h=> ?_) (fun h=> ?_)
 refine ⟨none,?_⟩
 obtain ⟨a,b,h⟩:=bS h
 refine ⟨[.fn 38],An (mE g3 ⟨by decide,rfl⟩) ?_⟩
 refine ⟨(CK.gen [(1028,0,34)] none _ _ none),An (B1.wk ((@c_engine_order_create (D6.mk p0 p1 (G9.mk 0 (E3.mk (C5.mk (A5.mk 0 0) (A5.mk 0 0) (A5.mk 0 0)) ([]:List Int) (D8.mk (A2.mk 0 0) (A2.mk 0 0))) ([]:List Int) [])) a).pf b) (r2 (fr (X4 (fr (r3 (fr (X4 (r2 trivial))))))))) (An rfl (An rfl ?_))⟩
 refine ⟨none,cD h (fun g4 h=> ?_) (fun g4 h=> ?_)⟩
 first|cases h|rw [<-oJ h]
 exact ⟨none,r2 (fr (X4 (r2 trivial)))⟩
 first|cases h|rw [<-oJ h]
 exact ⟨none,r2 (fr (r7 (fr (r4 (fr (fr trivial))))))⟩
 refine cE h (fun g5 h=> ?_) (fun h=> ?_)
 refine ⟨none,?_⟩
 obtain ⟨a,b,h⟩:=bS h
 refine ⟨[.fn 39],An (mE g5 ⟨by decide,rfl⟩) ?_⟩
 refine ⟨(CK.gen [(1028,0,34)] none _ _ none),An (B1.wk ((@c_engine_order_drop (D6.mk p0 p1 (G9.mk 0 (E3.mk (C5.mk (A5.mk 0 0) (A5.mk 0 0) (A5.mk 0 0)) ([]:List Int) (D8.mk (A2.mk 0 0) (A2.mk 0 0))) ([]:List Int) [])) a).pf b) (r2 (fr (X4 (fr (r3 (fr (X4 (r2 trivial))))))))) (An rfl (An rfl ?_))⟩
 refine ⟨none,cD h (fun g6 h=> ?_) (fun g6 h=> ?_)⟩
 first|cases h|rw [<-oJ h]
 exact ⟨none,r2 (fr (X4 (r2 trivial)))⟩
 first|cases h|rw [<-oJ h]
 exact ⟨none,r2 (fr (r7 (fr (r4 (fr (fr trivial))))))⟩
 refine cE h (fun g7 h=> ?_) (fun h=> ?_)
 refine ⟨none,?_⟩
 obtain ⟨a,b,h⟩:=bS h
 refine ⟨[.fn 40],An (mE g7 ⟨by decide,rfl⟩) ?_⟩
 refine ⟨(CK.gen [(1028,0,34)] none _ _ none),An (B1.wk ((@c_engine_order_tick (D6.mk p0 p1 (G9.mk 0 (E3.mk (C5.mk (A5.mk 0 0) (A5.mk 0 0) (A5.mk 0 0)) ([]:List Int) (D8.mk (A2.mk 0 0) (A2.mk 0 0))) ([]:List Int) [])) a).pf b) (r2 (fr (X4 (fr (r3 (fr (X4 (r2 trivial))))))))) (An rfl (An rfl ?_))⟩
 refine ⟨none,cD h (fun g8 h=> ?_) (fun g8 h=> ?_)⟩
 first|cases h|rw [<-oJ h]
 exact ⟨none,r2 (fr (X4 (r2 trivial)))⟩
 first|cases h|rw [<-oJ h]
 exact ⟨none,r2 (fr (r7 (fr (r4 (fr (fr trivial))))))⟩
 refine cE h (fun g9 h=> ?_) (fun h=> ?_)
 refine ⟨none,?_⟩
 obtain ⟨a,b,h⟩:=bS h
 refine ⟨[.fn 41],An (mE g9 ⟨by decide,rfl⟩) ?_⟩
 refine ⟨(CK.gen [(1028,0,34)] none _ _ none),An (B1.wk ((@c_engine_order_add (D6.mk p0 p1 (G9.mk 0 (E3.mk (C5.mk (A5.mk 0 0) (A5.mk 0 0) (A5.mk 0 0)) ([]:List Int) (D8.mk (A2.mk 0 0) (A2.mk 0 0))) ([]:List Int) [])) a).pf b) (r2 (fr (X4 (fr (r3 (fr (X4 (r2 trivial))))))))) (An rfl (An rfl ?_))⟩
 refine ⟨none,cD h (fun g10 h=> ?_) (fun g10 h=> ?_)⟩
 first|cases h|rw [<-oJ h]
 exact ⟨none,r2 (fr (X4 (r2 trivial)))⟩
 first|cases h|rw [<-oJ h]
 exact ⟨none,r2 (fr (r7 (fr (r4 (fr (fr trivial))))))⟩
 refine cE h (fun g11 h=> ?_) (fun h=> ?_)
 refine ⟨none,?_⟩
 obtain ⟨a,b,h⟩:=bS h
 refine ⟨[.fn 42],An (mE g11 ⟨by decide,rfl⟩) ?_⟩
 refine ⟨(CK.gen [(1028,0,34)] none _ _ none),An (B1.wk ((@c_engine_order_ask (D6.mk p0 p1 (G9.mk 0 (E3.mk (C5.mk (A5.mk 0 0) (A5.mk 0 0) (A5.mk 0 0)) ([]:List Int) (D8.mk (A2.mk 0 0) (A2.mk 0 0))) ([]:List Int) [])) a).pf b) (r2 (fr (X4 (fr (r3 (fr (X4 (r2 trivial))))))))) (An rfl (An rfl ?_))⟩
 refine ⟨none,cD h (fun g12 h=> ?_) (fun g12 h=> ?_)⟩
 first|cases h|rw [<-oJ h]
 exact ⟨none,r2 (fr (X4 (r2 trivial)))⟩
 first|cases h|rw [<-oJ h]
 exact ⟨none,r2 (fr (r7 (fr (r4 (fr (fr trivial))))))⟩
 refine cE h (fun g13 h=> ?_) (fun h=> ?_)
 refine ⟨none,?_⟩
 obtain ⟨a,b,h⟩:=bS h
 refine ⟨[.fn 43],An (mE g13 ⟨by decide,rfl⟩) ?_⟩
 refine ⟨(CK.gen [(1028,0,34)] none _ _ none),An (B1.wk ((@c_engine_order_list (D6.mk p0 p1 (G9.mk 0 (E3.mk (C5.mk (A5.mk 0 0) (A5.mk 0 0) (A5.mk 0 0)) ([]:List Int) (D8.mk (A2.mk 0 0) (A2.mk 0 0))) ([]:List Int) [])) a).pf b) (r2 (fr (X4 (fr (r3 (fr (X4 (r2 trivial))))))))) (An rfl (An rfl ?_))⟩
 refine ⟨none,cD h (fun g14 h=> ?_) (fun g14 h=> ?_)⟩
 first|cases h|rw [<-oJ h]
 exact ⟨none,r2 (fr (X4 (r2 trivial)))⟩
 first|cases h|rw [<-oJ h]
 exact ⟨none,r2 (fr (r7 (fr (r4 (fr (fr trivial))))))⟩
 refine cE h (fun g15 h=> ?_) (fun h=> ?_)
 refine ⟨none,?_⟩
 obtain ⟨a,b,h⟩:=bS h
 refine ⟨[.fn 44],An (mE g15 ⟨by decide,rfl⟩) ?_⟩
 refine ⟨(CK.gen [(1028,0,34)] none _ _ none),An (B1.wk ((@c_engine_order_save (D6.mk p0 p1 (G9.mk 0 (E3.mk (C5.mk (A5.mk 0 0) (A5.mk 0 0) (A5.mk 0 0)) ([]:List Int) (D8.mk (A2.mk 0 0) (A2.mk 0 0))) ([]:List Int) [])) a).pf b) (r2 (fr (X4 (fr (r3 (fr (X4 (r2 trivial))))))))) (An rfl (An rfl ?_))⟩
 refine ⟨none,cD h (fun g16 h=> ?_) (fun g16 h=> ?_)⟩
 first|cases h|rw [<-oJ h]
 exact ⟨none,r2 (fr (X4 (r2 trivial)))⟩
 first|cases h|rw [<-oJ h]
 exact ⟨none,r2 (fr (r7 (fr (r4 (fr (fr trivial))))))⟩
 refine cE h (fun g17 h=> ?_) (fun h=> ?_)
 refine ⟨none,?_⟩
 obtain ⟨a,b,h⟩:=bS h
 refine ⟨[.fn 45],An (mE g17 ⟨by decide,rfl⟩) ?_⟩
 refine ⟨(CK.gen [(1028,0,34)] none _ _ none),An (B1.wk ((@c_engine_order_load (D6.mk p0 p1 (G9.mk 0 (E3.mk (C5.mk (A5.mk 0 0) (A5.mk 0 0) (A5.mk 0 0)) ([]:List Int) (D8.mk (A2.mk 0 0) (A2.mk 0 0))) ([]:List Int) [])) a).pf b) (r2 (fr (X4 (fr (r3 (fr (X4 (r2 trivial))))))))) (An rfl (An rfl ?_))⟩
 refine ⟨none,cD h (fun g18 h=> ?_) (fun g18 h=> ?_)⟩
 first|cases h|rw [<-oJ h]
 exact ⟨none,r2 (fr (X4 (r2 trivial)))⟩
 first|cases h|rw [<-oJ h]
 exact ⟨none,r2 (fr (r7 (fr (r4 (fr (fr trivial))))))⟩
 cases h⟩
instance c_engine_Needs {p0:D4}{p1:E9}{r:(Int×Bool)}:CF (A7T p0 p1=some r) 49 [.agg [iI p0.Now,iI p0.Bd,lF 58 (List.map C7 p0.Ah)], .agg (G7 p1)] [] none (.tup [iI r.1, .sb r.2]) [] none:=⟨fun h=>C0 Tryz.func49 Tryz.call49 1 (au)⟩
end Go.Proofs.YtkakobhohikfkaaGreat
