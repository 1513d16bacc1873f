/- The contracts: each function of the program does what its function on plain data says. Made by program. -/
import Derived.Test.YtnanpdjjnegknaaGreatCoh
import Derived.Test.YtnanpdjjnegknaaGreatCon16
import Derived.Test.YtnanpdjjnegknaaGreatCon17
import Derived.Test.YtnanpdjjnegknaaGreatCon18
import Derived.Test.YtnanpdjjnegknaaGreatCon8
set_option linter.unusedVariables false
set_option linter.unusedSimpArgs false
set_option linter.unnecessarySimpa false
set_option maxHeartbeats 40000000
set_option maxRecDepth 20000
namespace Go.Proofs.YtnanpdjjnegknaaGreat
open Go.Vc Go.Dec Go.Win
theorem B2f (e:G7) (f:R5) (r:G7×I9) (h:V3 e f=some r):A4 Tryz.prog 20 [.agg [iI e.Now,iI e.Bd,lF 58 (List.map A9 e.Ah)], .agg (W9 f)] [] (.tup [.agg [iI r.1.Now,iI r.1.Bd,lF 58 (List.map A9 r.1.Ah)], .agg (A2S r.2)]) []:=by
 refine C0 Tryz.func20 Tryz.call20 1 ?_
 delta V3 at h
 refine eN (eN ?_)
 obtain ⟨c,d,h⟩:=bS h
 refine cK (An (cW (A29 e c d) (r2 (fr trivial))) (r1 ?_))
 refine eN (cD h (fun q h=> ?_) (fun q h=> ?_))
 first|cases h|rw [<-oJ h]
 exact eN (r2 (fr (V7 (r2 trivial))))
 refine eN (cK (An (cW (B80 f _ rfl) (V7 (fr (r3 (fr trivial))))) (r1 ?_)))
 refine cD h (fun s h=> ?_) (fun s h=> ?_)
 first|cases h|rw [<-oJ h]
 exact eN (r2 (fr (V7 (r2 trivial))))
 refine eN (eX (some none) ?_)
 refine cE h (fun t h=> ?_) (fun h=> ?_)
 refine eN ?_
 obtain ⟨a,b,h⟩:=bS h
 refine eX [.fn 57] (An (mE t ⟨by decide,rfl⟩) ?_)
 refine eX (CK.gen [(1028,0,34)] none _ _ none) (An (A1.wk (B2g (E4.mk e f (I9.mk 0 (E5.mk (D2.mk (A5.mk 0 0) (A5.mk 0 0) (A5.mk 0 0)) ([]:List Int) (D9.mk (A3.mk 0 0) (A3.mk 0 0))) ([]:List Int) [])) a b) (r2 (fr (V7 (fr (r3 (fr (V7 (r2 trivial))))))))) (An rfl (An rfl ?_)))
 refine eN (cD h (fun u h=> ?_) (fun u h=> ?_))
 first|cases h|rw [<-oJ h]
 exact eN (r2 (fr (V7 (r2 trivial))))
 first|cases h|rw [<-oJ h]
 exact eN (r2 (fr (r7 (fr (r4 (fr (fr trivial)))))))
 refine cE h (fun v h=> ?_) (fun h=> ?_)
 refine eN ?_
 obtain ⟨a,b,h⟩:=bS h
 refine eX [.fn 58] (An (mE v ⟨by decide,rfl⟩) ?_)
 refine eX (CK.gen [(1028,0,34)] none _ _ none) (An (A1.wk (B4P (E4.mk e f (I9.mk 0 (E5.mk (D2.mk (A5.mk 0 0) (A5.mk 0 0) (A5.mk 0 0)) ([]:List Int) (D9.mk (A3.mk 0 0) (A3.mk 0 0))) ([]:List Int) [])) a b) (r2 (fr (V7 (fr (r3 (fr (V7 (r2 trivial))))))))) (An rfl (An rfl ?_)))
 refine eN (cD h (fun w h=> ?_) (fun w h=> ?_))
 first|cases h|rw [<-oJ h]
 exact eN (r2 (fr (V7 (r2 trivial))))
 first|cases h|rw [<-oJ h]
 exact eN (r2 (fr (r7 (fr (r4 (fr (fr trivial)))))))
 refine cE h (fun x h=> ?_) (fun h=> ?_)
 refine eN ?_
 obtain ⟨a,b,h⟩:=bS h
 refine eX [.fn 59] (An (mE x ⟨by decide,rfl⟩) ?_)
 refine eX (CK.gen [(1028,0,34)] none _ _ none) (An (A1.wk (B4T (E4.mk e f (I9.mk 0 (E5.mk (D2.mk (A5.mk 0 0) (A5.mk 0 0) (A5.mk 0 0)) ([]:List Int) (D9.mk (A3.mk 0 0) (A3.mk 0 0))) ([]:List Int) [])) a b) (r2 (fr (V7 (fr (r3 (fr (V7 (r2 trivial))))))))) (An rfl (An rfl ?_)))
 refine eN (cD h (fun y h=> ?_) (fun y h=> ?_))
 first|cases h|rw [<-oJ h]
 exact eN (r2 (fr (V7 (r2 trivial))))
 first|cases h|rw [<-oJ h]
 exact eN (r2 (fr (r7 (fr (r4 (fr (fr trivial)))))))
 refine cE h (fun z h=> ?_) (fun h=> ?_)
 refine eN ?_
 obtain ⟨a,b,h⟩:=bS h
 refine eX [.fn 60] (An (mE z ⟨by decide,rfl⟩) ?_)
 refine eX (CK.gen [(1028,0,34)] none _ _ none) (An (A1.wk (B5k (E4.mk e f (I9.mk 0 (E5.mk (D2.mk (A5.mk 0 0) (A5.mk 0 0) (A5.mk 0 0)) ([]:List Int) (D9.mk (A3.mk 0 0) (A3.mk 0 0))) ([]:List Int) [])) a b) (r2 (fr (V7 (fr (r3 (fr (V7 (r2 trivial))))))))) (An rfl (An rfl ?_)))
 refine eN (cD h (fun g h=> ?_) (fun g h=> ?_))
 first|cases h|rw [<-oJ h]
 exact eN (r2 (fr (V7 (r2 trivial))))
 first|cases h|rw [<-oJ h]
 exact eN (r2 (fr (r7 (fr (r4 (fr (fr trivial)))))))
 refine cE h (fun i h=> ?_) (fun h=> ?_)
 refine eN ?_
 obtain ⟨a,b,h⟩:=bS h
 refine eX [.fn 61] (An (mE i ⟨by decide,rfl⟩) ?_)
 refine eX (CK.gen [(1028,0,34)] none _ _ none) (An (A1.wk (B5l (E4.mk e f (I9.mk 0 (E5.mk (D2.mk (A5.mk 0 0) (A5.mk 0 0) (A5.mk 0 0)) ([]:List Int) (D9.mk (A3.mk 0 0) (A3.mk 0 0))) ([]:List Int) [])) a b) (r2 (fr (V7 (fr (r3 (fr (V7 (r2 trivial))))))))) (An rfl (An rfl ?_)))
 refine eN (cD h (fun j h=> ?_) (fun j h=> ?_))
 first|cases h|rw [<-oJ h]
 exact eN (r2 (fr (V7 (r2 trivial))))
 first|cases h|rw [<-oJ h]
 exact eN (r2 (fr (r7 (fr (r4 (fr (fr trivial)))))))
 refine cE h (fun k h=> ?_) (fun h=> ?_)
 refine eN ?_
 obtain ⟨a,b,h⟩:=bS h
 refine eX [.fn 62] (An (mE k ⟨by decide,rfl⟩) ?_)
 refine eX (CK.gen [(1028,0,34)] none _ _ none) (An (A1.wk (B4Q (E4.mk e f (I9.mk 0 (E5.mk (D2.mk (A5.mk 0 0) (A5.mk 0 0) (A5.mk 0 0)) ([]:List Int) (D9.mk (A3.mk 0 0) (A3.mk 0 0))) ([]:List Int) [])) a b) (r2 (fr (V7 (fr (r3 (fr (V7 (r2 trivial))))))))) (An rfl (An rfl ?_)))
 refine eN (cD h (fun l h=> ?_) (fun l h=> ?_))
 first|cases h|rw [<-oJ h]
 exact eN (r2 (fr (V7 (r2 trivial))))
 first|cases h|rw [<-oJ h]
 exact eN (r2 (fr (r7 (fr (r4 (fr (fr trivial)))))))
 refine cE h (fun m h=> ?_) (fun h=> ?_)
 refine eN ?_
 obtain ⟨a,b,h⟩:=bS h
 refine eX [.fn 63] (An (mE m ⟨by decide,rfl⟩) ?_)
 refine eX (CK.gen [(1028,0,34)] none _ _ none) (An (A1.wk (B4S (E4.mk e f (I9.mk 0 (E5.mk (D2.mk (A5.mk 0 0) (A5.mk 0 0) (A5.mk 0 0)) ([]:List Int) (D9.mk (A3.mk 0 0) (A3.mk 0 0))) ([]:List Int) [])) a b) (r2 (fr (V7 (fr (r3 (fr (V7 (r2 trivial))))))))) (An rfl (An rfl ?_)))
 refine eN (cD h (fun n h=> ?_) (fun n h=> ?_))
 first|cases h|rw [<-oJ h]
 exact eN (r2 (fr (V7 (r2 trivial))))
 first|cases h|rw [<-oJ h]
 exact eN (r2 (fr (r7 (fr (r4 (fr (fr trivial)))))))
 refine cE h (fun o h=> ?_) (fun h=> ?_)
 refine eN ?_
 obtain ⟨a,b,h⟩:=bS h
 refine eX [.fn 64] (An (mE o ⟨by decide,rfl⟩) ?_)
 refine eX (CK.gen [(1028,0,34)] none _ _ none) (An (A1.wk (B4R (E4.mk e f (I9.mk 0 (E5.mk (D2.mk (A5.mk 0 0) (A5.mk 0 0) (A5.mk 0 0)) ([]:List Int) (D9.mk (A3.mk 0 0) (A3.mk 0 0))) ([]:List Int) [])) a b) (r2 (fr (V7 (fr (r3 (fr (V7 (r2 trivial))))))))) (An rfl (An rfl ?_)))
 refine eN (cD h (fun p h=> ?_) (fun p h=> ?_))
 first|cases h|rw [<-oJ h]
 exact eN (r2 (fr (V7 (r2 trivial))))
 first|cases h|rw [<-oJ h]
 exact eN (r2 (fr (r7 (fr (r4 (fr (fr trivial)))))))
 cases h
theorem C2c (r:Bool) (h:A7C=some r):A4 Tryz.prog 18 [] [] (.sb r) []:=
 C0 Tryz.func18 Tryz.call18 1 (eN (eN (cK (An (cW (B4o 1 _ rfl) zz) (r1 (eN (bC h fun b e h=>cK (An (cW (B2f (A3U (1:Int)).1 (R5.mk 1 7 (E9.mk 6 0 0 0 0 0 0 0) 0 0 ([]:List Int) (R9.mk 0 0 0) []) b e) zz) (r1 (eN (bC h fun a f h=>cK (An (cW (B2f b.1 (R5.mk 6 0 (E9.mk 0 0 0 0 0 0 0 0) 0 0 ([]:List Int) (R9.mk 0 0 0) []) a f) zz) (r1 (eN (bC h fun c d h=>eN (An (fun g=>An (fun i=>eX [iI (a.2.Br.length:Int)] (An (E0 (eI .i64) a.2.Br) (An (fun j=>eX [iI c] (An (C3 (eI .i64) (J1 (aR (aR g i) j) d)) (by (first|cases h|rw [<-oJ h]);exact (An (D1S (aR (aR (aR g i) j) rfl)) trivial)))) (fun j=>(by (first|cases h|rw [<-oJ h]);exact (An (D1S (aL (aR (aR g i) j))) trivial)))))) (fun i=>(by (first|cases h|rw [<-oJ h]);exact (An (D1S (aL (aL (aR g i)))) trivial)))) (fun g=>(by (first|cases h|rw [<-oJ h]);exact (An (D1S (aL (aL (aL g)))) trivial)))))))))))))))))))
theorem B62 (e:Int) (r:Bool) (h:A50 e=some r):A4 Tryz.prog 3 [iI e] [] (.sb r) []:=
 C0 Tryz.func3 Tryz.call3 1 (eN (eN (cK (An (cW (B4o e _ rfl) zz) (r1 (eN (cK (An (cW (C3C e _ rfl) zz) (r1 (eN (bC h fun a b h=>bC h fun c d h=>eN (cK (An (cW (C3B (A3U e).1 (B1n e).1 a b) zz) (r1 (An (fun f=>An (fun g=>cK (An (cW (C2c c (J1 (aR f g) d)) trivial) (r1 (by (first|cases h|rw [<-oJ h]);exact (An (D1S (aR (aR f g) rfl)) trivial))))) (fun g=>(by (first|cases h|rw [<-oJ h]);exact (An (D1S (aL (aR f g))) trivial)))) (fun f=>(by (first|cases h|rw [<-oJ h]);exact (An (D1S (aL (aL f))) trivial))))))))))))))))))
end Go.Proofs.YtnanpdjjnegknaaGreat
