/- The contracts: each function of the program does what its function on plain data says. Made by program. -/
import Derived.Test.YticmbokcamokpaaGreatCoh
import Derived.Test.YticmbokcamokpaaGreatCon7
import Derived.Test.YticmbokcamokpaaGreatCon0
import Derived.Test.YticmbokcamokpaaGreatCon15
import Derived.Test.YticmbokcamokpaaGreatCon2
import Derived.Test.YticmbokcamokpaaGreatCon26
import Derived.Test.YticmbokcamokpaaGreatCon25
import Derived.Test.YticmbokcamokpaaGreatCon30
import Derived.Test.YticmbokcamokpaaGreatCon6
import Derived.Test.YticmbokcamokpaaGreatCon34
import Derived.Test.YticmbokcamokpaaGreatCon38
set_option linter.unusedVariables false
set_option linter.unusedSimpArgs false
set_option linter.unnecessarySimpa false
set_option maxHeartbeats 40000000
set_option maxRecDepth 20000
namespace Go.Proofs.YticmbokcamokpaaGreat
open Go.Vc Go.Dec Go.Win
instance c_engine_Apply {p0:B4}{p1:B6}{r:(B4×F5)}:CF (I9 p0 p1=some r) 13 [.agg [iI p0.Now,iI p0.Be,lF 58 (List.map C6 p0.Ai)], .agg (E6 p1)] [] none (.tup [.agg [iI r.1.Now,iI r.1.Be,lF 58 (List.map C6 r.1.Ai)], .agg (A0U r.2)]) [] none:=⟨fun h=>by
 refine C0 Tryz.func13 Tryz.call13 1 ?_
 delta I9 at h
 refine ⟨none,⟨none,?_⟩⟩
 obtain ⟨c,d,h⟩:=bS h
 refine ⟨cK (An (cW ((@c_snapshot_Validate p0 c).pf d) (r2 (fr trivial))) (r1 ?_))⟩
 refine ⟨none,cD h (fun g1 h=> ?_) (fun g1 h=> ?_)⟩
 first|cases h|rw [<-oJ h]
 exact ⟨none,r2 (fr (r12 (r2 trivial)))⟩
 refine ⟨none,⟨cK (An (cW (@A9u p1 _ rfl) (r12 (fr (r3 (fr trivial))))) (r1 ?_))⟩⟩
 refine cD h (fun g2 h=> ?_) (fun g2 h=> ?_)
 first|cases h|rw [<-oJ h]
 exact ⟨none,r2 (fr (r12 (r2 trivial)))⟩
 refine ⟨none,⟨(some none),?_⟩⟩
 refine cE h (fun g3 h=> ?_) (fun h=> ?_)
 refine ⟨none,?_⟩
 obtain ⟨a,b,h⟩:=bS h
 refine ⟨[.fn 45],An (mE g3 ⟨by decide,rfl⟩) ?_⟩
 refine ⟨(CK.gen [(1028,0,34)] none _ _ none),An (C5.wk ((@c_engine_order_create (D8.mk p0 p1 (F5.mk 0 (E3.mk (C9.mk (A4.mk 0 0) (A4.mk 0 0) (A4.mk 0 0)) ([]:List Int) (D7.mk (A2.mk 0 0) (A2.mk 0 0))) ([]:List Int) [])) a).pf b) (r2 (fr (r12 (fr (r3 (fr (r12 (r2 trivial))))))))) (An rfl (An rfl ?_))⟩
 refine ⟨none,cD h (fun g4 h=> ?_) (fun g4 h=> ?_)⟩
 first|cases h|rw [<-oJ h]
 exact ⟨none,r2 (fr (r12 (r2 trivial)))⟩
 first|cases h|rw [<-oJ h]
 exact ⟨none,r2 (fr (r7 (fr (r4 (fr (fr trivial))))))⟩
 refine cE h (fun g5 h=> ?_) (fun h=> ?_)
 refine ⟨none,?_⟩
 obtain ⟨a,b,h⟩:=bS h
 refine ⟨[.fn 46],An (mE g5 ⟨by decide,rfl⟩) ?_⟩
 refine ⟨(CK.gen [(1028,0,34)] none _ _ none),An (C5.wk ((@c_engine_order_drop (D8.mk p0 p1 (F5.mk 0 (E3.mk (C9.mk (A4.mk 0 0) (A4.mk 0 0) (A4.mk 0 0)) ([]:List Int) (D7.mk (A2.mk 0 0) (A2.mk 0 0))) ([]:List Int) [])) a).pf b) (r2 (fr (r12 (fr (r3 (fr (r12 (r2 trivial))))))))) (An rfl (An rfl ?_))⟩
 refine ⟨none,cD h (fun g6 h=> ?_) (fun g6 h=> ?_)⟩
 first|cases h|rw [<-oJ h]
 exact ⟨none,r2 (fr (r12 (r2 trivial)))⟩
 first|cases h|rw [<-oJ h]
 exact ⟨none,r2 (fr (r7 (fr (r4 (fr (fr trivial))))))⟩
 refine cE h (fun g7 h=> ?_) (fun h=> ?_)
 refine ⟨none,?_⟩
 obtain ⟨a,b,h⟩:=bS h
 refine ⟨[.fn 47],An (mE g7 ⟨by decide,rfl⟩) ?_⟩
 refine ⟨(CK.gen [(1028,0,34)] none _ _ none),An (C5.wk ((@c_engine_order_tick (D8.mk p0 p1 (F5.mk 0 (E3.mk (C9.mk (A4.mk 0 0) (A4.mk 0 0) (A4.mk 0 0)) ([]:List Int) (D7.mk (A2.mk 0 0) (A2.mk 0 0))) ([]:List Int) [])) a).pf b) (r2 (fr (r12 (fr (r3 (fr (r12 (r2 trivial))))))))) (An rfl (An rfl ?_))⟩
 refine ⟨none,cD h (fun g8 h=> ?_) (fun g8 h=> ?_)⟩
 first|cases h|rw [<-oJ h]
 exact ⟨none,r2 (fr (r12 (r2 trivial)))⟩
 first|cases h|rw [<-oJ h]
 exact ⟨none,r2 (fr (r7 (fr (r4 (fr (fr trivial))))))⟩
 refine cE h (fun g9 h=> ?_) (fun h=> ?_)
 refine ⟨none,?_⟩
 obtain ⟨a,b,h⟩:=bS h
 refine ⟨[.fn 48],An (mE g9 ⟨by decide,rfl⟩) ?_⟩
 refine ⟨(CK.gen [(1028,0,34)] none _ _ none),An (C5.wk ((@c_engine_order_add (D8.mk p0 p1 (F5.mk 0 (E3.mk (C9.mk (A4.mk 0 0) (A4.mk 0 0) (A4.mk 0 0)) ([]:List Int) (D7.mk (A2.mk 0 0) (A2.mk 0 0))) ([]:List Int) [])) a).pf b) (r2 (fr (r12 (fr (r3 (fr (r12 (r2 trivial))))))))) (An rfl (An rfl ?_))⟩
 refine ⟨none,cD h (fun g10 h=> ?_) (fun g10 h=> ?_)⟩
 first|cases h|rw [<-oJ h]
 exact ⟨none,r2 (fr (r12 (r2 trivial)))⟩
 first|cases h|rw [<-oJ h]
 exact ⟨none,r2 (fr (r7 (fr (r4 (fr (fr trivial))))))⟩
 refine cE h (fun g11 h=> ?_) (fun h=> ?_)
 refine ⟨none,?_⟩
 obtain ⟨a,b,h⟩:=bS h
 refine ⟨[.fn 49],An (mE g11 ⟨by decide,rfl⟩) ?_⟩
 refine ⟨(CK.gen [(1028,0,34)] none _ _ none),An (C5.wk ((@c_engine_order_ask (D8.mk p0 p1 (F5.mk 0 (E3.mk (C9.mk (A4.mk 0 0) (A4.mk 0 0) (A4.mk 0 0)) ([]:List Int) (D7.mk (A2.mk 0 0) (A2.mk 0 0))) ([]:List Int) [])) a).pf b) (r2 (fr (r12 (fr (r3 (fr (r12 (r2 trivial))))))))) (An rfl (An rfl ?_))⟩
 refine ⟨none,cD h (fun g12 h=> ?_) (fun g12 h=> ?_)⟩
 first|cases h|rw [<-oJ h]
 exact ⟨none,r2 (fr (r12 (r2 trivial)))⟩
 first|cases h|rw [<-oJ h]
 exact ⟨none,r2 (fr (r7 (fr (r4 (fr (fr trivial))))))⟩
 refine cE h (fun g13 h=> ?_) (fun h=> ?_)
 refine ⟨none,?_⟩
 obtain ⟨a,b,h⟩:=bS h
 refine ⟨[.fn 50],An (mE g13 ⟨by decide,rfl⟩) ?_⟩
 refine ⟨(CK.gen [(1028,0,34)] none _ _ none),An (C5.wk ((@c_engine_order_list (D8.mk p0 p1 (F5.mk 0 (E3.mk (C9.mk (A4.mk 0 0) (A4.mk 0 0) (A4.mk 0 0)) ([]:List Int) (D7.mk (A2.mk 0 0) (A2.mk 0 0))) ([]:List Int) [])) a).pf b) (r2 (fr (r12 (fr (r3 (fr (r12 (r2 trivial))))))))) (An rfl (An rfl ?_))⟩
 refine ⟨none,cD h (fun g14 h=> ?_) (fun g14 h=> ?_)⟩
 first|cases h|rw [<-oJ h]
 exact ⟨none,r2 (fr (r12 (r2 trivial)))⟩
 first|cases h|rw [<-oJ h]
 exact ⟨none,r2 (fr (r7 (fr (r4 (fr (fr trivial))))))⟩
 refine cE h (fun g15 h=> ?_) (fun h=> ?_)
 refine ⟨none,?_⟩
 obtain ⟨a,b,h⟩:=bS h
 refine ⟨[.fn 51],An (mE g15 ⟨by decide,rfl⟩) ?_⟩
 refine ⟨(CK.gen [(1028,0,34)] none _ _ none),An (C5.wk ((@c_engine_order_save (D8.mk p0 p1 (F5.mk 0 (E3.mk (C9.mk (A4.mk 0 0) (A4.mk 0 0) (A4.mk 0 0)) ([]:List Int) (D7.mk (A2.mk 0 0) (A2.mk 0 0))) ([]:List Int) [])) a).pf b) (r2 (fr (r12 (fr (r3 (fr (r12 (r2 trivial))))))))) (An rfl (An rfl ?_))⟩
 refine ⟨none,cD h (fun g16 h=> ?_) (fun g16 h=> ?_)⟩
 first|cases h|rw [<-oJ h]
 exact ⟨none,r2 (fr (r12 (r2 trivial)))⟩
 first|cases h|rw [<-oJ h]
 exact ⟨none,r2 (fr (r7 (fr (r4 (fr (fr trivial))))))⟩
 refine cE h (fun g17 h=> ?_) (fun h=> ?_)
 refine ⟨none,?_⟩
 obtain ⟨a,b,h⟩:=bS h
 refine ⟨[.fn 52],An (mE g17 ⟨by decide,rfl⟩) ?_⟩
 refine ⟨(CK.gen [(1028,0,34)] none _ _ none),An (C5.wk ((@c_engine_order_load (D8.mk p0 p1 (F5.mk 0 (E3.mk (C9.mk (A4.mk 0 0) (A4.mk 0 0) (A4.mk 0 0)) ([]:List Int) (D7.mk (A2.mk 0 0) (A2.mk 0 0))) ([]:List Int) [])) a).pf b) (r2 (fr (r12 (fr (r3 (fr (r12 (r2 trivial))))))))) (An rfl (An rfl ?_))⟩
 refine ⟨none,cD h (fun g18 h=> ?_) (fun g18 h=> ?_)⟩
 first|cases h|rw [<-oJ h]
 exact ⟨none,r2 (fr (r12 (r2 trivial)))⟩
 first|cases h|rw [<-oJ h]
 exact ⟨none,r2 (fr (r7 (fr (r4 (fr (fr trivial))))))⟩
 cases h⟩
instance c_engine_Needs {p0:B4}{p1:B6}{r:(Int×Bool)}:CF (A9x p0 p1=some r) 35 [.agg [iI p0.Now,iI p0.Be,lF 58 (List.map C6 p0.Ai)], .agg (E6 p1)] [] none (.tup [iI r.1, .sb r.2]) [] none:=⟨fun h=>C0 Tryz.func35 Tryz.call35 1 (au)⟩
instance c_top_drawn {p0:B4}{p1:B6}{p2:(List Int)}{r:B6}:CF (A6X p0 p1 p2=some r) 9 [.agg [iI p0.Now,iI p0.Be,lF 58 (List.map C6 p0.Ai)], .agg (E6 p1),lF 1 (List.map (eI .i64) p2)] [] none (.agg (E6 r)) [] none:=⟨fun h=>C0 Tryz.func9 Tryz.call9 1 (⟨none,⟨none,⟨cK (An (cW (@B5b p2 _ rfl) zz) (r1 (⟨none,⟨lO h (fun q=>[tM 3 (.ptr 1 0),tM 4 (.ptr 2 0),tM 6 (.ptr 3 0),tM 7 (.ptr 258 0),tB 1 [iI p0.Now,iI p0.Be,lF 58 (List.map C6 p0.Ai)],tB 2 (iI p1.Op::(iI p1.ID::(List.append (I5 p1.Ap) (iI p1.T::(iI p1.V::(lF 1 (List.map (eI .i64) q.1)::(iI p1.Bh.Op::(iI p1.Bh.A::(iI p1.Bh.B::(lF 1 (List.map (eI .u8) p1.Ay):: [])))))))))),tB 3 [iI 0,iI 0,iI 0,iI 0,iI 0,iI 0,iI 0,iI 0,iI 0,iI 0,iI 0,iI 0, .nilS,iI 0,iI 0,iI 0, .nilS],tB 258 [lF 1 (List.map (eI .i64) q.2.1),iI q.2.2]]) fun n1 h=>An (jT (_,n1) (An h zz)) (nx fun ⟨a,b,c⟩ m1 x1 h hl1 hr1=>⟨none,⟨[iI (a.length:Int)],An (lenS (eI .i64) a) (cD h (fun g1 h=>⟨none,bC h fun e f h=>⟨cK (An (cW ((@c_engine_Needs p0 (B6.mk p1.Op p1.ID p1.Ap p1.T p1.V a p1.Bh p1.Ay) e).pf f) zz) (r1 (⟨none,⟨uO [tM 3 (.ptr 1 0),tM 4 (.ptr 2 0),tM 6 (.ptr 3 0),tM 7 (.ptr 258 0),tM 8 (iI e.1),tM 27 (.sb ((!e.2)||(decide (e.1<1)))),tB 1 [iI p0.Now,iI p0.Be,lF 58 (List.map C6 p0.Ai)],tB 2 (iI p1.Op::(iI p1.ID::(List.append (I5 p1.Ap) (iI p1.T::(iI p1.V::(lF 1 (List.map (eI .i64) a)::(iI p1.Bh.Op::(iI p1.Bh.A::(iI p1.Bh.B::(lF 1 (List.map (eI .u8) p1.Ay):: [])))))))))),tB 3 [iI 0,iI 0,iI 0,iI 0,iI 0,iI 0,iI 0,iI 0,iI 0,iI 0,iI 0,iI 0, .nilS,iI 0,iI 0,iI 0, .nilS],tB 258 [lF 1 (List.map (eI .i64) b),iI c]] 1000000 (An (An (fun g2=>jV ((r2 (An (D8b (oR g2 rfl)) zz)))) (fun g2=>jV ((r2 (An (D8b (oL g2)) zz))))) (fun _ _=>cD h (fun g3 h=>have h:=W1 h hr1;lf) (fun g3 h=>⟨none,kC h fun g h=>bC h fun d i h=>kC h fun j h=>An (kA (oD g)) (⟨(CK.gen [(258,0,2)] none _ _ none),An (C5.wk ((@c_made_Tape_Next (V4.mk b c) e.1 d).pf i) zz) (An rfl (An rfl (An (kA (oD j)) (⟨[],⟨[1000008],⟨((((([]:List Int)++a)++ [d.1]),d.2.L,d.2.At),m1),An (hl1 (((([]:List Int)++a)++ [d.1]),d.2.L,d.2.At) (oJ h).symm) (An (D8s m1) (r3 (fr (r12 (An ff (An lE zz))))))⟩⟩⟩))))⟩)⟩)))⟩⟩)))⟩⟩) (fun g1 h=>have h:=W1 h hr1;lf))⟩⟩)⟩⟩)))⟩⟩⟩)⟩
instance c_top_play {p0:(List B6)}{p1:Int}{r:B4}:CF (B6S p0 p1=some r) 8 [lF 17 (List.map E6 p0),iI p1] [] none (.agg [iI r.Now,iI r.Be,lF 58 (List.map C6 r.Ai)]) [] none:=⟨fun h=>C0 Tryz.func8 Tryz.call8 1 (let E:List Nat×List Nat×(((Int×Int×Int×(List A7)))->St):=([0,1,4,5],[1],fun q=>[tM 7 (iI q.1),tB 261 [iI q.2.1,iI q.2.2.1,lF 58 (List.map C6 q.2.2.2)]]);au)⟩
instance c_script_Run {p0:B4}{p1:(List Int)}{r:(B4×(List Int)×Int)}:CF (A2J p0 p1=some r) 24 [.agg [iI p0.Now,iI p0.Be,lF 58 (List.map C6 p0.Ai)],lF 1 (List.map (eI .u8) p1)] [] none (.tup [.agg [iI r.1.Now,iI r.1.Be,lF 58 (List.map C6 r.1.Ai)],lF 1 (List.map (eI .u8) r.2.1),iI r.2.2]) [] none:=⟨fun h=>C0 Tryz.func24 Tryz.call24 1 (let E:List Nat×List Nat×(((Int×Int×Int×(List A7)×(List Int)))->St):=([2,4,8,9,11,34,35],[2],fun q=>[tM 36 (iI q.1),tB 1 [iI q.2.1,iI q.2.2.1,lF 58 (List.map C6 q.2.2.2.1)],tB 1025 [lF 1 (List.map (eI .u8) q.2.2.2.2)]]);au)⟩
end Go.Proofs.YticmbokcamokpaaGreat
