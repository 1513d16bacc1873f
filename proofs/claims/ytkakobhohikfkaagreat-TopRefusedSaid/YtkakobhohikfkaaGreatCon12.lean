/- The contracts: each function of the program does what its function on plain data says. Made by program. -/
import Derived.Test.YtkakobhohikfkaaGreatCoh
import Derived.Test.YtkakobhohikfkaaGreatCon7
import Derived.Test.YtkakobhohikfkaaGreatCon11
set_option linter.unusedVariables false
set_option linter.unusedSimpArgs false
set_option linter.unnecessarySimpa false
set_option maxHeartbeats 40000000
set_option maxRecDepth 20000
namespace Go.Proofs.YtkakobhohikfkaaGreat
open Go.Vc Go.Dec Go.Win
instance c_math_bits_Div64 {p0:Int}{p1:Int}{p2:Int}{r:(Int×Int)}:CF (A05 p0 p1 p2=some r) 321 [iU p0,iU p1,iU p2] [] none (.tup [iU r.1,iU r.2]) [] none:=⟨fun h=>by
 refine C0 Tryz.func321 Tryz.call321 1 ?_
 delta A05 at h
 refine ⟨none,⟨none,⟨none,cD h (fun g1 h=> ?_) (fun g1 h=> ?_)⟩⟩⟩
 cases h
 refine ⟨none,⟨none,cD h (fun g2 h=> ?_) (fun g2 h=> ?_)⟩⟩
 cases h
 refine ⟨none,cD h (fun g3 h=> ?_) (fun g3 h=> ?_)⟩
 refine ⟨none,?_⟩
 obtain ⟨o,h⟩:=ckS h
 obtain ⟨p,h⟩:=ckS h
 refine An (oD o) ?_
 refine An (oD p) ?_
 first|cases h|rw [<-oJ h]
 exact (r2 trivial)
 refine ⟨none,?_⟩
 obtain ⟨a,t,h⟩:=bS h
 refine ⟨cK (An (cW ((@c_math_bits_LeadingZeros64 p2 a).pf t) (r1 trivial)) (r1 ?_))⟩
 refine ⟨none,?_⟩
 obtain ⟨u,h⟩:=ckS h
 refine An (oD u) ?_
 refine ⟨none,An (by decide) ?_⟩
 refine ⟨none,⟨none,?_⟩⟩
 obtain ⟨j,h⟩:=ckS h
 obtain ⟨k,h⟩:=ckS h
 refine An (oD j) ?_
 refine An (oD k) ?_
 refine ⟨none,?_⟩
 obtain ⟨l,h⟩:=ckS h
 refine An (oD l) ?_
 refine ⟨none,An (by decide) ?_⟩
 refine ⟨none,⟨none,?_⟩⟩
 obtain ⟨m,h⟩:=ckS h
 refine An (oD m) ?_
 refine ⟨none,⟨(some (⟨Int,fun b=> [tM 2 (iU (E7 .u64 p2 (A4 a))),tM 8 (iU (A4 a)),tM 9 (iU (F8 .u64 (E7 .u64 p2 (A4 a)) 32)),tM 10 (iU (S2 .u64 (E7 .u64 p2 (A4 a)) 4294967295)),tM 11 (iU (Q6 .u64 (E7 .u64 p0 (A4 a)) (F8 .u64 p1 (A4 (64-(A4 a)))))),tM 13 (iU (F8 .u64 (E7 .u64 p1 (A4 a)) 32)),tM 14 (iU (S2 .u64 (E7 .u64 p1 (A4 a)) 4294967295)),tM 15 (iU b)],fun b=>A0O p0 p1 p2 a b=some r,fun _=>0⟩,1000000)),An ?_ ?_⟩⟩
 replace h:A42 p0 p1 p2 a (A4 (Int.tdiv (Q6 .u64 (E7 .u64 p0 (A4 a)) (F8 .u64 p1 (A4 (64-(A4 a))))) (F8 .u64 (E7 .u64 p2 (A4 a)) 32))) (A4 ((Q6 .u64 (E7 .u64 p0 (A4 a)) (F8 .u64 p1 (A4 (64-(A4 a)))))-(A4 ((A4 (Int.tdiv (Q6 .u64 (E7 .u64 p0 (A4 a)) (F8 .u64 p1 (A4 (64-(A4 a))))) (F8 .u64 (E7 .u64 p2 (A4 a)) 32)))*(F8 .u64 (E7 .u64 p2 (A4 a)) 32)))))=some r:=h
 delta A42 at h
 obtain ⟨n1,h⟩:=B3g h
 refine ⟨(Sum.inl ⟨(Int×Int)×Nat,fun q=> [tM 2 (iU (E7 .u64 p2 (A4 a))),tM 8 (iU (A4 a)),tM 9 (iU (F8 .u64 (E7 .u64 p2 (A4 a)) 32)),tM 10 (iU (S2 .u64 (E7 .u64 p2 (A4 a)) 4294967295)),tM 11 (iU (Q6 .u64 (E7 .u64 p0 (A4 a)) (F8 .u64 p1 (A4 (64-(A4 a)))))),tM 13 (iU (F8 .u64 (E7 .u64 p1 (A4 a)) 32)),tM 14 (iU (S2 .u64 (E7 .u64 p1 (A4 a)) 4294967295)),tM 15 (iU q.1.1),tM 16 (iU q.1.2)],fun q=>M0 (fun (s:(Int×Int))=>A13 p0 p1 p2 a s.1 s.2) q.2 q.1=some r,fun q=>q.2⟩),An (⟨[],⟨[],⟨(((A4 (Int.tdiv (Q6 .u64 (E7 .u64 p0 (A4 a)) (F8 .u64 p1 (A4 (64-(A4 a))))) (F8 .u64 (E7 .u64 p2 (A4 a)) 32))),(A4 ((Q6 .u64 (E7 .u64 p0 (A4 a)) (F8 .u64 p1 (A4 (64-(A4 a)))))-(A4 ((A4 (Int.tdiv (Q6 .u64 (E7 .u64 p0 (A4 a)) (F8 .u64 p1 (A4 (64-(A4 a))))) (F8 .u64 (E7 .u64 p2 (A4 a)) 32)))*(F8 .u64 (E7 .u64 p2 (A4 a)) 32)))))),n1),An h (r8 (r2 trivial))⟩⟩⟩) ?_⟩
 clear h
 refine fun q h=> ?_
 obtain ⟨⟨d,g⟩,n1⟩:=q
 obtain ⟨m1,x1,hm1,h,hl1,hr1⟩:=B1l h
 replace hm1:n1=m1+1:=hm1
 subst hm1
 replace h:A13 p0 p1 p2 a d g=some x1:=h
 delta A13 at h
 refine ⟨none,⟨(some (⟨Unit,fun _=> [tM 2 (iU (E7 .u64 p2 (A4 a))),tM 8 (iU (A4 a)),tM 9 (iU (F8 .u64 (E7 .u64 p2 (A4 a)) 32)),tM 10 (iU (S2 .u64 (E7 .u64 p2 (A4 a)) 4294967295)),tM 11 (iU (Q6 .u64 (E7 .u64 p0 (A4 a)) (F8 .u64 p1 (A4 (64-(A4 a)))))),tM 13 (iU (F8 .u64 (E7 .u64 p1 (A4 a)) 32)),tM 14 (iU (S2 .u64 (E7 .u64 p1 (A4 a)) 4294967295)),tM 15 (iU d),tM 16 (iU g),tM 78 (.sb ((decide (d>=4294967296))||(decide ((A4 (d*(S2 .u64 (E7 .u64 p2 (A4 a)) 4294967295)))>(A4 ((A4 (4294967296*g))+(F8 .u64 (E7 .u64 p1 (A4 a)) 32)))))))],fun _=>True,fun _=>0⟩,1000000)),An ?_ (fun _ _=> ?_)⟩⟩
 refine An (fun g4=> ?_) (fun g4=> ?_)
 exact jU (An trivial (r8 (r2 (An (D4E (oR g4 rfl)) trivial))))
 exact jU (An trivial (r8 (r2 (An (D4E (oL g4)) trivial))))
 refine cD h (fun g5 h=> ?_) (fun g5 h=> ?_)
 refine ⟨none,⟨none,⟨none,cD h (fun g6 h=> ?_) (fun g6 h=> ?_)⟩⟩⟩
 replace h:=S4 h hr1
 exact jT (A4 (d-1)) (An h (r8 (r1 trivial)))
 exact jT (_,m1) (An (hl1 _ (oJ h).symm) (An (jL m1) (r8 (r2 trivial))))
 replace h:=S4 h hr1
 exact jT d (An h (r8 (r1 trivial)))
 clear h
 refine fun b h=> ?_
 replace h:A0O p0 p1 p2 a b=some r:=h
 delta A0O at h
 refine ⟨none,⟨none,?_⟩⟩
 obtain ⟨n,h⟩:=ckS h
 refine An (oD n) ?_
 refine ⟨none,⟨(some (⟨Int,fun e=> [tM 2 (iU (E7 .u64 p2 (A4 a))),tM 8 (iU (A4 a)),tM 14 (iU (S2 .u64 (E7 .u64 p1 (A4 a)) 4294967295)),tM 15 (iU b),tM 17 (iU (A4 ((A4 ((A4 ((Q6 .u64 (E7 .u64 p0 (A4 a)) (F8 .u64 p1 (A4 (64-(A4 a)))))*4294967296))+(F8 .u64 (E7 .u64 p1 (A4 a)) 32)))-(A4 (b*(E7 .u64 p2 (A4 a))))))),tM 18 (iU e)],fun e=>A0P p0 p1 p2 a b e=some r,fun _=>0⟩,2000000)),An ?_ ?_⟩⟩
 replace h:A4r p0 p1 p2 a b (A4 ((A4 ((A4 ((A4 ((Q6 .u64 (E7 .u64 p0 (A4 a)) (F8 .u64 p1 (A4 (64-(A4 a)))))*4294967296))+(F8 .u64 (E7 .u64 p1 (A4 a)) 32)))-(A4 (b*(E7 .u64 p2 (A4 a))))))-(A4 ((A4 (Int.tdiv (A4 ((A4 ((A4 ((Q6 .u64 (E7 .u64 p0 (A4 a)) (F8 .u64 p1 (A4 (64-(A4 a)))))*4294967296))+(F8 .u64 (E7 .u64 p1 (A4 a)) 32)))-(A4 (b*(E7 .u64 p2 (A4 a)))))) (F8 .u64 (E7 .u64 p2 (A4 a)) 32)))*(F8 .u64 (E7 .u64 p2 (A4 a)) 32))))) (A4 (Int.tdiv (A4 ((A4 ((A4 ((Q6 .u64 (E7 .u64 p0 (A4 a)) (F8 .u64 p1 (A4 (64-(A4 a)))))*4294967296))+(F8 .u64 (E7 .u64 p1 (A4 a)) 32)))-(A4 (b*(E7 .u64 p2 (A4 a)))))) (F8 .u64 (E7 .u64 p2 (A4 a)) 32)))=some r:=h
 delta A4r at h
 obtain ⟨n1,h⟩:=B3g h
 refine ⟨(Sum.inl ⟨(Int×Int)×Nat,fun q=> [tM 2 (iU (E7 .u64 p2 (A4 a))),tM 8 (iU (A4 a)),tM 9 (iU (F8 .u64 (E7 .u64 p2 (A4 a)) 32)),tM 10 (iU (S2 .u64 (E7 .u64 p2 (A4 a)) 4294967295)),tM 14 (iU (S2 .u64 (E7 .u64 p1 (A4 a)) 4294967295)),tM 15 (iU b),tM 16 (iU q.1.1),tM 17 (iU (A4 ((A4 ((A4 ((Q6 .u64 (E7 .u64 p0 (A4 a)) (F8 .u64 p1 (A4 (64-(A4 a)))))*4294967296))+(F8 .u64 (E7 .u64 p1 (A4 a)) 32)))-(A4 (b*(E7 .u64 p2 (A4 a))))))),tM 18 (iU q.1.2)],fun q=>M0 (fun (s:(Int×Int))=>A1v p0 p1 p2 a b s.1 s.2) q.2 q.1=some r,fun q=>q.2⟩),An (⟨[],⟨[],⟨(((A4 ((A4 ((A4 ((A4 ((Q6 .u64 (E7 .u64 p0 (A4 a)) (F8 .u64 p1 (A4 (64-(A4 a)))))*4294967296))+(F8 .u64 (E7 .u64 p1 (A4 a)) 32)))-(A4 (b*(E7 .u64 p2 (A4 a))))))-(A4 ((A4 (Int.tdiv (A4 ((A4 ((A4 ((Q6 .u64 (E7 .u64 p0 (A4 a)) (F8 .u64 p1 (A4 (64-(A4 a)))))*4294967296))+(F8 .u64 (E7 .u64 p1 (A4 a)) 32)))-(A4 (b*(E7 .u64 p2 (A4 a)))))) (F8 .u64 (E7 .u64 p2 (A4 a)) 32)))*(F8 .u64 (E7 .u64 p2 (A4 a)) 32))))),(A4 (Int.tdiv (A4 ((A4 ((A4 ((Q6 .u64 (E7 .u64 p0 (A4 a)) (F8 .u64 p1 (A4 (64-(A4 a)))))*4294967296))+(F8 .u64 (E7 .u64 p1 (A4 a)) 32)))-(A4 (b*(E7 .u64 p2 (A4 a)))))) (F8 .u64 (E7 .u64 p2 (A4 a)) 32)))),n1),An h (r8 (r2 trivial))⟩⟩⟩) ?_⟩
 clear h
 refine fun q h=> ?_
 obtain ⟨⟨f,c⟩,n1⟩:=q
 obtain ⟨m1,x1,hm1,h,hl1,hr1⟩:=B1l h
 replace hm1:n1=m1+1:=hm1
 subst hm1
 replace h:A1v p0 p1 p2 a b f c=some x1:=h
 delta A1v at h
 refine ⟨none,⟨(some (⟨Unit,fun _=> [tM 2 (iU (E7 .u64 p2 (A4 a))),tM 8 (iU (A4 a)),tM 9 (iU (F8 .u64 (E7 .u64 p2 (A4 a)) 32)),tM 10 (iU (S2 .u64 (E7 .u64 p2 (A4 a)) 4294967295)),tM 14 (iU (S2 .u64 (E7 .u64 p1 (A4 a)) 4294967295)),tM 15 (iU b),tM 16 (iU f),tM 17 (iU (A4 ((A4 ((A4 ((Q6 .u64 (E7 .u64 p0 (A4 a)) (F8 .u64 p1 (A4 (64-(A4 a)))))*4294967296))+(F8 .u64 (E7 .u64 p1 (A4 a)) 32)))-(A4 (b*(E7 .u64 p2 (A4 a))))))),tM 18 (iU c),tM 113 (.sb ((decide (c>=4294967296))||(decide ((A4 (c*(S2 .u64 (E7 .u64 p2 (A4 a)) 4294967295)))>(A4 ((A4 (4294967296*f))+(S2 .u64 (E7 .u64 p1 (A4 a)) 4294967295)))))))],fun _=>True,fun _=>0⟩,2000000)),An ?_ (fun _ _=> ?_)⟩⟩
 refine An (fun g7=> ?_) (fun g7=> ?_)
 exact jU (An trivial (r8 (r2 (An (D4E (oR g7 rfl)) trivial))))
 exact jU (An trivial (r8 (r2 (An (D4E (oL g7)) trivial))))
 refine cD h (fun g8 h=> ?_) (fun g8 h=> ?_)
 refine ⟨none,⟨none,⟨none,cD h (fun g9 h=> ?_) (fun g9 h=> ?_)⟩⟩⟩
 replace h:=S4 h hr1
 exact jT (A4 (c-1)) (An h (r7 trivial))
 exact jT (_,m1) (An (hl1 _ (oJ h).symm) (An (jL m1) (r8 (r2 trivial))))
 replace h:=S4 h hr1
 exact jT c (An h (r7 trivial))
 clear h
 refine fun e h=> ?_
 replace h:A0P p0 p1 p2 a b e=some r:=h
 delta A0P at h
 refine ⟨none,?_⟩
 obtain ⟨i,h⟩:=ckS h
 refine An (oD i) ?_
 first|cases h|rw [<-oJ h]
 exact (r2 trivial)⟩
instance c_exact_by {p0:H3}{p1:Int}{r:(H3×Int)}:CF (B19 p0 p1=some r) 265 [.agg (X3 p0),iU p1] [] none (.tup [.agg (X3 r.1),iU r.2]) [] none:=⟨fun h=>C0 Tryz.func265 Tryz.call265 1 (⟨none,⟨none,⟨none,⟨lO h (fun q=>[tM 1 (iU p1),tM 2 (.ptr 1 0),tM 4 (.ptr 2 0),tM 6 (iU q.1),tM 7 (iI q.2.1),tB 1 [iU q.2.2.1,iU q.2.2.2.1,iU q.2.2.2.2.1,iU q.2.2.2.2.2],tB 2 [iU 0,iU 0,iU 0,iU 0]]) fun n1 h=>An (jT (_,n1) (An h zz)) (nx fun ⟨e,j,a,b,c,d⟩ m1 x1 h hl1 hr1=>⟨none,cD h (fun g1 h=>⟨none,bC h fun t k h=>bC h fun f l h=>bC h fun m n h=>bC h fun o g h=>bC h fun p i h=>An (N1 (eI .u64) k) (⟨[iU f],An (O5 (eI .u64) l) (⟨cK (An (cW ((@c_math_bits_Div64 e f p1 m).pf n) zz) (r1 (An (N1 (eI .u64) g) (An (B1T (AV.int .u64) i) (⟨none,jR h hl1 zz⟩)))))⟩)⟩)⟩) (fun g1 h=>have h:=S4 h hr1;lf)⟩)⟩⟩⟩⟩)⟩
instance c_num_Gcd {p0:Int}{p1:Int}{r:Int}:CF (B7u p0 p1=some r) 266 [iI p0,iI p1] [] none (iI r) [] none:=⟨fun h=>C0 Tryz.func266 Tryz.call266 1 (let E:List Nat×List Nat×(((Int×Int))->St):=([],[],fun q=>[tM 0 (iI q.1),tM 1 (iI q.2)]);au)⟩
instance c_exact_Spread {p0:(List A8)}{r:(A5×Bool)}:CF (A7W p0=some r) 191 [lF 2 (List.map E6 p0)] [] none (.tup [.agg [iI r.1.Bu,iI r.1.Bp], .sb r.2]) [] none:=⟨fun h=>C0 Tryz.func191 Tryz.call191 1 (⟨none,⟨none,⟨[iI (p0.length:Int)],An (J4 E6 p0) (⟨none,cD h (fun g1 h=>lf) (fun g1 h=>⟨none,⟨none,⟨[iI (p0.length:Int)],An (J4 E6 p0) (⟨lO h (fun q=>[tM 0 (lF 2 (List.map E6 p0)),tM 2 (.ptr 1 0),tM 4 (iU (A4 (p0.length:Int))),tM 5 (.ptr 769 0),tM 6 (.ptr 770 0),tM 7 (.ptr 771 0),tM 23 (lF 2 (List.map E6 p0)),tM 24 (iI (p0.length:Int)),tM 25 (iI q.1),tB 1 [iI 0,iI 0],tB 769 [iU q.2.1,iU q.2.2.1,iU q.2.2.2.1,iU q.2.2.2.2],tB 770 [iU 0,iU 0,iU 0,iU 0],tB 771 [iU 0,iU 0,iU 0,iU 0]]) fun n1 h=>An (jT (_,n1) (An h zz)) (nx fun ⟨y,a,b,c,d⟩ m1 x1 h hl1 hr1=>⟨none,cD h (fun g2 h=>⟨none,bC h fun l N h=>⟨[iI l.T,iI l.V],An (I7 E6 N) (⟨none,bC h fun O P h=>⟨cK (An (cW (@A6K l.V _ rfl) zz) (r1 (⟨cK (An (cW (@A6K l.V _ rfl) zz) (r1 (⟨(CK.gen [(769,0,4)] none _ _ none),An (B1.wk ((@c_exact_quad_times (H3.mk a b c d) (Y4 l.V) (Y4 l.V) 0 O).pf P) zz) (An rfl (An rfl (⟨none,jR h hl1 zz⟩)))⟩)))⟩)))⟩⟩)⟩⟩) (fun g2 h=>have h:=S4 h hr1;⟨none,⟨lO h (fun q=>[tM 0 (lF 2 (List.map E6 p0)),tM 2 (.ptr 1 0),tM 4 (iU (A4 (p0.length:Int))),tM 5 (.ptr 769 0),tM 6 (.ptr 770 0),tM 7 (.ptr 771 0),tM 10 (iI q.1),tB 1 [iI 0,iI 0],tB 769 [iU a,iU b,iU c,iU d],tB 770 [iU q.2.1,iU q.2.2.1,iU q.2.2.2.1,iU q.2.2.2.2],tB 771 [iU 0,iU 0,iU 0,iU 0]]) fun n1 h=>An (jT (_,n1) (An h zz)) (nx fun ⟨n,f,g,i,j⟩ m1 x1 h hl1 hr1=>⟨none,cD h (fun g3 h=>⟨none,bC h fun Q z h=>bC h fun o A h=>bC h fun B C h=>An (N1 (eI .u64) z) (⟨[iU o],An (O5 (eI .u64) A) (⟨(CK.gen [(770,0,4)] none _ _ none),An (B1.wk ((@c_exact_quad_times (H3.mk f g i j) o (A4 (p0.length:Int)) n B).pf C) zz) (An rfl (An rfl (⟨none,jR h hl1 zz⟩)))⟩)⟩)⟩) (fun g3 h=>have h:=S4 h hr1;⟨none,bC h fun e D h=>⟨cK (An (cW ((@c_exact_total p0 e).pf D) zz) (r1 (⟨none,bC h fun p E h=>⟨(CK.gen [(771,0,4)] none _ _ none),An (B1.wk ((@c_exact_quad_times (H3.mk 0 0 0 0) e.2.Lo e.2.Lo 0 p).pf E) zz) (An rfl (An rfl (⟨none,bC h fun t F h=>⟨(CK.gen [(771,0,4)] none _ _ none),An (B1.wk ((@c_exact_quad_times p e.2.Lo e.2.Hi 1 t).pf F) zz) (An rfl (An rfl (⟨none,bC h fun u G h=>⟨(CK.gen [(771,0,4)] none _ _ none),An (B1.wk ((@c_exact_quad_times t e.2.Lo e.2.Hi 1 u).pf G) zz) (An rfl (An rfl (⟨none,bC h fun v H h=>⟨(CK.gen [(771,0,4)] none _ _ none),An (B1.wk ((@c_exact_quad_times u e.2.Hi e.2.Hi 2 v).pf H) zz) (An rfl (An rfl (⟨none,bC h fun m I h=>⟨cK (An (cW ((@c_exact_minus (H3.mk f g i j) v m).pf I) zz) (r1 (⟨none,bC h fun w J h=>⟨cK (An (cW ((@c_exact_by m (A4 (p0.length:Int)) w).pf J) zz) (r1 (⟨none,bC h fun x K h=>⟨cK (An (cW ((@c_num_Gcd (A1 (A4 (p0.length:Int))) (A1 w.2) x).pf K) zz) (r1 (⟨none,bC h fun k L h=>⟨cK (An (cW ((@c_exact_by m (A4 x) k).pf L) zz) (r1 (⟨none,⟨none,An (by first|decide|(simp only [A1];decide)|omega) (⟨[iU k.1.e1],An ⟨by first|decide|omega,by first|rfl|decide⟩ (An (by first|decide|(simp only [A1];decide)|omega) (⟨[iU k.1.e2],An ⟨by first|decide|omega,by first|rfl|decide⟩ (An (by first|decide|(simp only [A1];decide)|omega) (⟨[iU k.1.e3],An ⟨by first|decide|omega,by first|rfl|decide⟩ (An (fun g4=>An (by first|decide|(simp only [A1];decide)|omega) (⟨[iU k.1.e0],An ⟨by first|decide|omega,by first|rfl|decide⟩ (An (fun g5=>have h:=cT (oR g4 g5) h;lf) (fun g5=>have h:=cF (oR g4 g5) h;⟨none,kC h fun M h=>An (by first|decide|(simp only [A1];decide)|omega) (⟨[iU k.1.e0],An ⟨by first|decide|omega,by first|rfl|decide⟩ (An (oD M) lf)⟩)⟩))⟩)) (fun g4=>have h:=cT (oL g4) h;lf))⟩))⟩))⟩)⟩⟩)))⟩⟩)))⟩⟩)))⟩⟩)))⟩⟩)))⟩⟩)))⟩⟩)))⟩⟩)))⟩⟩)))⟩⟩)⟩)⟩⟩)⟩)⟩)⟩⟩⟩)⟩)⟩⟩⟩)⟩
instance c_bounds_Exact {p0:A5}{r:C5}:CF (Q4 p0=some r) 192 [.agg [iI p0.Bu,iI p0.Bp]] [] none (.agg (Q1 r)) [] none:=⟨fun h=>C0 Tryz.func192 Tryz.call192 1 (au)⟩
instance c_exact_Rank {p0:(List A8)}{p1:Int}{r:Int}:CF (B1g p0 p1=some r) 193 [lF 2 (List.map E6 p0),iI p1] [] none (iI r) [] none:=⟨fun h=>C0 Tryz.func193 Tryz.call193 1 (let E:List Nat×List Nat×(((Int×Int))->St):=([1,8,9],[],fun q=>[tM 5 (iI q.1),tM 10 (iI q.2)]);au)⟩
end Go.Proofs.YtkakobhohikfkaaGreat
