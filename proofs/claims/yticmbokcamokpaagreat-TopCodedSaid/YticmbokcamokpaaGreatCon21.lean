/- The contracts: each function of the program does what its function on plain data says. Made by program. -/
import Derived.Test.YticmbokcamokpaaGreatCoh
import Derived.Test.YticmbokcamokpaaGreatCon20
set_option linter.unusedVariables false
set_option linter.unusedSimpArgs false
set_option linter.unnecessarySimpa false
set_option maxHeartbeats 40000000
set_option maxRecDepth 20000
namespace Go.Proofs.YticmbokcamokpaaGreat
open Go.Vc Go.Dec Go.Win
instance c_math_bits_Div64 {p0:Int}{p1:Int}{p2:Int}{r:(Int×Int)}:CF (A11 p0 p1 p2=some r) 347 [iU p0,iU p1,iU p2] [] none (.tup [iU r.1,iU r.2]) [] none:=⟨fun h=>by
 refine C0 Tryz.func347 Tryz.call347 1 ?_
 delta A11 at h
 refine ⟨none,⟨none,⟨none,cD h (fun g1 h=> ?_) (fun g1 h=> ?_)⟩⟩⟩
 cases h
 refine ⟨none,⟨none,cD h (fun g2 h=> ?_) (fun g2 h=> ?_)⟩⟩
 cases h
 refine ⟨none,cD h (fun g3 h=> ?_) (fun g3 h=> ?_)⟩
 refine ⟨none,?_⟩
 obtain ⟨o,h⟩:=ckS h
 obtain ⟨p,h⟩:=ckS h
 refine An (oD o) ?_
 refine An (oD p) ?_
 first|cases h|rw [<-oJ h]
 exact (r2 trivial)
 refine ⟨none,?_⟩
 obtain ⟨a,t,h⟩:=bS h
 refine ⟨cK (An (cW ((@c_math_bits_LeadingZeros64 p2 a).pf t) (r1 trivial)) (r1 ?_))⟩
 refine ⟨none,?_⟩
 obtain ⟨u,h⟩:=ckS h
 refine An (oD u) ?_
 refine ⟨none,An (by decide) ?_⟩
 refine ⟨none,⟨none,?_⟩⟩
 obtain ⟨j,h⟩:=ckS h
 obtain ⟨k,h⟩:=ckS h
 refine An (oD j) ?_
 refine An (oD k) ?_
 refine ⟨none,?_⟩
 obtain ⟨l,h⟩:=ckS h
 refine An (oD l) ?_
 refine ⟨none,An (by decide) ?_⟩
 refine ⟨none,⟨none,?_⟩⟩
 obtain ⟨m,h⟩:=ckS h
 refine An (oD m) ?_
 refine ⟨none,⟨(some (⟨Int,fun b=> [tM 2 (iU (E5 .u64 p2 (A5 a))),tM 8 (iU (A5 a)),tM 9 (iU (G0 .u64 (E5 .u64 p2 (A5 a)) 32)),tM 10 (iU (P7 .u64 (E5 .u64 p2 (A5 a)) 4294967295)),tM 11 (iU (N8 .u64 (E5 .u64 p0 (A5 a)) (G0 .u64 p1 (A5 (64-(A5 a)))))),tM 13 (iU (G0 .u64 (E5 .u64 p1 (A5 a)) 32)),tM 14 (iU (P7 .u64 (E5 .u64 p1 (A5 a)) 4294967295)),tM 15 (iU b)],fun b=>A1F p0 p1 p2 a b=some r,fun _=>0⟩,1000000)),An ?_ ?_⟩⟩
 replace h:A6I p0 p1 p2 a (A5 (Int.tdiv (N8 .u64 (E5 .u64 p0 (A5 a)) (G0 .u64 p1 (A5 (64-(A5 a))))) (G0 .u64 (E5 .u64 p2 (A5 a)) 32))) (A5 ((N8 .u64 (E5 .u64 p0 (A5 a)) (G0 .u64 p1 (A5 (64-(A5 a)))))-(A5 ((A5 (Int.tdiv (N8 .u64 (E5 .u64 p0 (A5 a)) (G0 .u64 p1 (A5 (64-(A5 a))))) (G0 .u64 (E5 .u64 p2 (A5 a)) 32)))*(G0 .u64 (E5 .u64 p2 (A5 a)) 32)))))=some r:=h
 delta A6I at h
 obtain ⟨n1,h⟩:=B4O h
 refine ⟨(Sum.inl ⟨(Int×Int)×Nat,fun q=> [tM 2 (iU (E5 .u64 p2 (A5 a))),tM 8 (iU (A5 a)),tM 9 (iU (G0 .u64 (E5 .u64 p2 (A5 a)) 32)),tM 10 (iU (P7 .u64 (E5 .u64 p2 (A5 a)) 4294967295)),tM 11 (iU (N8 .u64 (E5 .u64 p0 (A5 a)) (G0 .u64 p1 (A5 (64-(A5 a)))))),tM 13 (iU (G0 .u64 (E5 .u64 p1 (A5 a)) 32)),tM 14 (iU (P7 .u64 (E5 .u64 p1 (A5 a)) 4294967295)),tM 15 (iU q.1.1),tM 16 (iU q.1.2)],fun q=>M7 (fun (s:(Int×Int))=>A3m p0 p1 p2 a s.1 s.2) q.2 q.1=some r,fun q=>q.2⟩),An (⟨[],⟨[],⟨(((A5 (Int.tdiv (N8 .u64 (E5 .u64 p0 (A5 a)) (G0 .u64 p1 (A5 (64-(A5 a))))) (G0 .u64 (E5 .u64 p2 (A5 a)) 32))),(A5 ((N8 .u64 (E5 .u64 p0 (A5 a)) (G0 .u64 p1 (A5 (64-(A5 a)))))-(A5 ((A5 (Int.tdiv (N8 .u64 (E5 .u64 p0 (A5 a)) (G0 .u64 p1 (A5 (64-(A5 a))))) (G0 .u64 (E5 .u64 p2 (A5 a)) 32)))*(G0 .u64 (E5 .u64 p2 (A5 a)) 32)))))),n1),An h (r8 (r2 trivial))⟩⟩⟩) ?_⟩
 clear h
 refine fun q h=> ?_
 obtain ⟨⟨d,g⟩,n1⟩:=q
 obtain ⟨m1,x1,hm1,h,hl1,hr1⟩:=B2O h
 replace hm1:n1=m1+1:=hm1
 subst hm1
 replace h:A3m p0 p1 p2 a d g=some x1:=h
 delta A3m at h
 refine ⟨none,⟨(some (⟨Unit,fun _=> [tM 2 (iU (E5 .u64 p2 (A5 a))),tM 8 (iU (A5 a)),tM 9 (iU (G0 .u64 (E5 .u64 p2 (A5 a)) 32)),tM 10 (iU (P7 .u64 (E5 .u64 p2 (A5 a)) 4294967295)),tM 11 (iU (N8 .u64 (E5 .u64 p0 (A5 a)) (G0 .u64 p1 (A5 (64-(A5 a)))))),tM 13 (iU (G0 .u64 (E5 .u64 p1 (A5 a)) 32)),tM 14 (iU (P7 .u64 (E5 .u64 p1 (A5 a)) 4294967295)),tM 15 (iU d),tM 16 (iU g),tM 78 (.sb ((decide (d>=4294967296))||(decide ((A5 (d*(P7 .u64 (E5 .u64 p2 (A5 a)) 4294967295)))>(A5 ((A5 (4294967296*g))+(G0 .u64 (E5 .u64 p1 (A5 a)) 32)))))))],fun _=>True,fun _=>0⟩,1000000)),An ?_ (fun _ _=> ?_)⟩⟩
 refine An (fun g4=> ?_) (fun g4=> ?_)
 exact jU (An trivial (r8 (r2 (An (D8b (oR g4 rfl)) trivial))))
 exact jU (An trivial (r8 (r2 (An (D8b (oL g4)) trivial))))
 refine cD h (fun g5 h=> ?_) (fun g5 h=> ?_)
 refine ⟨none,⟨none,⟨none,cD h (fun g6 h=> ?_) (fun g6 h=> ?_)⟩⟩⟩
 replace h:=W1 h hr1
 exact jT (A5 (d-1)) (An h (r8 (r1 trivial)))
 exact jT (_,m1) (An (hl1 _ (oJ h).symm) (An (jL m1) (r8 (r2 trivial))))
 replace h:=W1 h hr1
 exact jT d (An h (r8 (r1 trivial)))
 clear h
 refine fun b h=> ?_
 replace h:A1F p0 p1 p2 a b=some r:=h
 delta A1F at h
 refine ⟨none,⟨none,?_⟩⟩
 obtain ⟨n,h⟩:=ckS h
 refine An (oD n) ?_
 refine ⟨none,⟨(some (⟨Int,fun e=> [tM 2 (iU (E5 .u64 p2 (A5 a))),tM 8 (iU (A5 a)),tM 14 (iU (P7 .u64 (E5 .u64 p1 (A5 a)) 4294967295)),tM 15 (iU b),tM 17 (iU (A5 ((A5 ((A5 ((N8 .u64 (E5 .u64 p0 (A5 a)) (G0 .u64 p1 (A5 (64-(A5 a)))))*4294967296))+(G0 .u64 (E5 .u64 p1 (A5 a)) 32)))-(A5 (b*(E5 .u64 p2 (A5 a))))))),tM 18 (iU e)],fun e=>A1G p0 p1 p2 a b e=some r,fun _=>0⟩,2000000)),An ?_ ?_⟩⟩
 replace h:A5R p0 p1 p2 a b (A5 ((A5 ((A5 ((A5 ((N8 .u64 (E5 .u64 p0 (A5 a)) (G0 .u64 p1 (A5 (64-(A5 a)))))*4294967296))+(G0 .u64 (E5 .u64 p1 (A5 a)) 32)))-(A5 (b*(E5 .u64 p2 (A5 a))))))-(A5 ((A5 (Int.tdiv (A5 ((A5 ((A5 ((N8 .u64 (E5 .u64 p0 (A5 a)) (G0 .u64 p1 (A5 (64-(A5 a)))))*4294967296))+(G0 .u64 (E5 .u64 p1 (A5 a)) 32)))-(A5 (b*(E5 .u64 p2 (A5 a)))))) (G0 .u64 (E5 .u64 p2 (A5 a)) 32)))*(G0 .u64 (E5 .u64 p2 (A5 a)) 32))))) (A5 (Int.tdiv (A5 ((A5 ((A5 ((N8 .u64 (E5 .u64 p0 (A5 a)) (G0 .u64 p1 (A5 (64-(A5 a)))))*4294967296))+(G0 .u64 (E5 .u64 p1 (A5 a)) 32)))-(A5 (b*(E5 .u64 p2 (A5 a)))))) (G0 .u64 (E5 .u64 p2 (A5 a)) 32)))=some r:=h
 delta A5R at h
 obtain ⟨n1,h⟩:=B4O h
 refine ⟨(Sum.inl ⟨(Int×Int)×Nat,fun q=> [tM 2 (iU (E5 .u64 p2 (A5 a))),tM 8 (iU (A5 a)),tM 9 (iU (G0 .u64 (E5 .u64 p2 (A5 a)) 32)),tM 10 (iU (P7 .u64 (E5 .u64 p2 (A5 a)) 4294967295)),tM 14 (iU (P7 .u64 (E5 .u64 p1 (A5 a)) 4294967295)),tM 15 (iU b),tM 16 (iU q.1.1),tM 17 (iU (A5 ((A5 ((A5 ((N8 .u64 (E5 .u64 p0 (A5 a)) (G0 .u64 p1 (A5 (64-(A5 a)))))*4294967296))+(G0 .u64 (E5 .u64 p1 (A5 a)) 32)))-(A5 (b*(E5 .u64 p2 (A5 a))))))),tM 18 (iU q.1.2)],fun q=>M7 (fun (s:(Int×Int))=>A2G p0 p1 p2 a b s.1 s.2) q.2 q.1=some r,fun q=>q.2⟩),An (⟨[],⟨[],⟨(((A5 ((A5 ((A5 ((A5 ((N8 .u64 (E5 .u64 p0 (A5 a)) (G0 .u64 p1 (A5 (64-(A5 a)))))*4294967296))+(G0 .u64 (E5 .u64 p1 (A5 a)) 32)))-(A5 (b*(E5 .u64 p2 (A5 a))))))-(A5 ((A5 (Int.tdiv (A5 ((A5 ((A5 ((N8 .u64 (E5 .u64 p0 (A5 a)) (G0 .u64 p1 (A5 (64-(A5 a)))))*4294967296))+(G0 .u64 (E5 .u64 p1 (A5 a)) 32)))-(A5 (b*(E5 .u64 p2 (A5 a)))))) (G0 .u64 (E5 .u64 p2 (A5 a)) 32)))*(G0 .u64 (E5 .u64 p2 (A5 a)) 32))))),(A5 (Int.tdiv (A5 ((A5 ((A5 ((N8 .u64 (E5 .u64 p0 (A5 a)) (G0 .u64 p1 (A5 (64-(A5 a)))))*4294967296))+(G0 .u64 (E5 .u64 p1 (A5 a)) 32)))-(A5 (b*(E5 .u64 p2 (A5 a)))))) (G0 .u64 (E5 .u64 p2 (A5 a)) 32)))),n1),An h (r8 (r2 trivial))⟩⟩⟩) ?_⟩
 clear h
 refine fun q h=> ?_
 obtain ⟨⟨f,c⟩,n1⟩:=q
 obtain ⟨m1,x1,hm1,h,hl1,hr1⟩:=B2O h
 replace hm1:n1=m1+1:=hm1
 subst hm1
 replace h:A2G p0 p1 p2 a b f c=some x1:=h
 delta A2G at h
 refine ⟨none,⟨(some (⟨Unit,fun _=> [tM 2 (iU (E5 .u64 p2 (A5 a))),tM 8 (iU (A5 a)),tM 9 (iU (G0 .u64 (E5 .u64 p2 (A5 a)) 32)),tM 10 (iU (P7 .u64 (E5 .u64 p2 (A5 a)) 4294967295)),tM 14 (iU (P7 .u64 (E5 .u64 p1 (A5 a)) 4294967295)),tM 15 (iU b),tM 16 (iU f),tM 17 (iU (A5 ((A5 ((A5 ((N8 .u64 (E5 .u64 p0 (A5 a)) (G0 .u64 p1 (A5 (64-(A5 a)))))*4294967296))+(G0 .u64 (E5 .u64 p1 (A5 a)) 32)))-(A5 (b*(E5 .u64 p2 (A5 a))))))),tM 18 (iU c),tM 113 (.sb ((decide (c>=4294967296))||(decide ((A5 (c*(P7 .u64 (E5 .u64 p2 (A5 a)) 4294967295)))>(A5 ((A5 (4294967296*f))+(P7 .u64 (E5 .u64 p1 (A5 a)) 4294967295)))))))],fun _=>True,fun _=>0⟩,2000000)),An ?_ (fun _ _=> ?_)⟩⟩
 refine An (fun g7=> ?_) (fun g7=> ?_)
 exact jU (An trivial (r8 (r2 (An (D8b (oR g7 rfl)) trivial))))
 exact jU (An trivial (r8 (r2 (An (D8b (oL g7)) trivial))))
 refine cD h (fun g8 h=> ?_) (fun g8 h=> ?_)
 refine ⟨none,⟨none,⟨none,cD h (fun g9 h=> ?_) (fun g9 h=> ?_)⟩⟩⟩
 replace h:=W1 h hr1
 exact jT (A5 (c-1)) (An h (r7 trivial))
 exact jT (_,m1) (An (hl1 _ (oJ h).symm) (An (jL m1) (r8 (r2 trivial))))
 replace h:=W1 h hr1
 exact jT c (An h (r7 trivial))
 clear h
 refine fun e h=> ?_
 replace h:A1G p0 p1 p2 a b e=some r:=h
 delta A1G at h
 refine ⟨none,?_⟩
 obtain ⟨i,h⟩:=ckS h
 refine An (oD i) ?_
 first|cases h|rw [<-oJ h]
 exact (r2 trivial)⟩
instance c_exact_by {p0:H5}{p1:Int}{r:(H5×Int)}:CF (B3H p0 p1=some r) 296 [.agg (A0j p0),iU p1] [] none (.tup [.agg (A0j r.1),iU r.2]) [] none:=⟨fun h=>C0 Tryz.func296 Tryz.call296 1 (⟨none,⟨none,⟨none,⟨lO h (fun q=>[tM 1 (iU p1),tM 2 (.ptr 1 0),tM 4 (.ptr 2 0),tM 6 (iU q.1),tM 7 (iI q.2.1),tB 1 [iU q.2.2.1,iU q.2.2.2.1,iU q.2.2.2.2.1,iU q.2.2.2.2.2],tB 2 [iU 0,iU 0,iU 0,iU 0]]) fun n1 h=>An (jT (_,n1) (An h zz)) (nx fun ⟨e,j,a,b,c,d⟩ m1 x1 h hl1 hr1=>⟨none,cD h (fun g1 h=>⟨none,bC h fun t k h=>bC h fun f l h=>bC h fun m n h=>bC h fun o g h=>bC h fun p i h=>An (N7 (eI .u64) k) (⟨[iU f],An (P8 (eI .u64) l) (⟨cK (An (cW ((@c_math_bits_Div64 e f p1 m).pf n) zz) (r1 (An (N7 (eI .u64) g) (An (B3q (AV.int .u64) i) (⟨none,jR h hl1 zz⟩)))))⟩)⟩)⟩) (fun g1 h=>have h:=W1 h hr1;lf)⟩)⟩⟩⟩⟩)⟩
instance c_num_Gcd {p0:Int}{p1:Int}{r:Int}:CF (B9h p0 p1=some r) 297 [iI p0,iI p1] [] none (iI r) [] none:=⟨fun h=>C0 Tryz.func297 Tryz.call297 1 (let E:List Nat×List Nat×(((Int×Int))->St):=([],[],fun q=>[tM 0 (iI q.1),tM 1 (iI q.2)]);au)⟩
end Go.Proofs.YticmbokcamokpaaGreat
