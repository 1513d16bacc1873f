/- The contracts: each function of the program does what its function on plain data says. Made by program. -/
import Derived.Test.YtmipeaidieflmaaGreatTab
import Derived.Test.YtmipeaidieflmaaGreatWin
import Derived.Test.YtmipeaidieflmaaGreatVc
import Derived.Test.YtmipeaidieflmaaGreatWalk
import Derived.Test.YtmipeaidieflmaaGreatCon0
set_option linter.unusedVariables false
set_option linter.unusedSimpArgs false
set_option linter.unnecessarySimpa false
set_option maxHeartbeats 4000000
set_option maxRecDepth 20000
namespace Go.Proofs.YtmipeaidieflmaaGreat
open Go.Vc Go.Dec Go.Win
theorem c_ref11_Fits (p0:(List api_Bucket)) (p1:Int) (p2:Int) (p3:Int) (p4:Int) (r:Bool) (h:ref11_Fits p0 p1 p2 p3 p4=some r):Contract Tryz.prog 254 [lF 2 (List.map enc_api_Bucket p0),iI p1,iI p2,iI p3,iI p4] [] (.sb r) []:=by
 refine C0 Tryz.func254 Tryz.call254 1 ?_
 delta ref11_Fits at h
 refine eN (eN ?_)
 obtain ⟨b,c,h⟩:=bS h
 obtain ⟨d,e,h⟩:=bS h
 refine eN (cK (An (cW (c_ref09_May' p1 p3 p4 _ rfl) (r3 trivial)) (r1 ?_)))
 refine An (fun g1=> ?_) (fun g1=> ?_)
 refine cK (An (cW (c_ref11_MayK' p2 _ rfl) (r1 trivial)) (r1 ?_))
 refine An (fun g2=> ?_) (fun g2=> ?_)
 refine cK (An (cW (c_ref10_Valid p0 p2 b (gdT (nE (oR g1 g2)) c)) (fr (r1 trivial))) (r1 ?_))
 refine An (fun g3=> ?_) (fun g3=> ?_)
 refine cK (An (cW (c_ref10_Total p0 d (gdT (nE (oR (oR g1 g2) g3)) e)) (fr trivial)) (r1 ?_))
 refine An (fun g4=> ?_) (fun g4=> ?_)
 replace h:=cT (oR (oR (oR g1 g2) g3) g4) h
 first|cases h|rw [←oJ h]
 exact eN (r1 trivial)
 replace h:=cF (oR (oR (oR g1 g2) g3) g4) h
 refine eN (eX [iI (p0.length:Int)] (An (lenS enc_api_Bucket p0) ?_))
 replace h:ref11_Fits_l3 p0 p1 p4 (0:Int)=some r:=h
 delta ref11_Fits_l3 at h
 obtain ⟨n1,h⟩:=loopS h
 refine eX (Sum.inl ⟨Int×Nat,fun q=> [tM 1 (iI p1),tM 4 (iI p4),tM 35 (lF 2 (List.map enc_api_Bucket p0)),tM 36 (iI (p0.length:Int)),tM 37 (iI q.1)],fun q=>loopN (fun (s:Int)=>ref11_Fits_l3s p0 p1 p4 s) q.2 q.1=some r,fun q=>q.2⟩) (An (eX [] (eX [] (eX ((0:Int),n1) (An h (r3 (fr (r2 trivial))))))) ?_)
 clear h
 refine fun q h=> ?_
 obtain ⟨f,n1⟩:=q
 obtain ⟨m1,x1,hm1,h,hl1,hr1⟩:=loopN_step h
 replace hm1:n1=m1+1:=hm1
 subst hm1
 replace h:ref11_Fits_l3s p0 p1 p4 f=some x1:=h
 delta ref11_Fits_l3s at h
 refine eN (cD h (fun g5 h=> ?_) (fun g5 h=> ?_))
 refine eN ?_
 obtain ⟨a,g,h⟩:=bS h
 refine eX [iI a.T,iI a.Level] (An (idx_map enc_api_Bucket g) ?_)
 refine eN (cK (An (cW (c_ref06_Live' p4 p1 a.T _ rfl) (r3 trivial)) (r1 ?_)))
 refine cD h (fun g6 h=> ?_) (fun g6 h=> ?_)
 cases retS h hr1
 exact eN (r1 trivial)
 exact eN (jT (_,m1) (An (hl1 _ (oJ h).symm) (An (jL m1) (r3 (fr (r2 trivial))))))
 replace h:=popS h hr1
 first|cases h|rw [←oJ h]
 exact eN (r1 trivial)
 replace h:=cT (oL (oR (oR g1 g2) g3)) h
 first|cases h|rw [←oJ h]
 exact eN (r1 trivial)
 replace h:=cT (oL (oL (oR g1 g2))) h
 first|cases h|rw [←oJ h]
 exact eN (r1 trivial)
 replace h:=cT (oL (oL (oL g1))) h
 first|cases h|rw [←oJ h]
 exact eN (r1 trivial)
theorem c_ref11_Validate (p0:api_Count) (r:Int) (h:ref11_Validate p0=some r):Contract Tryz.prog 148 [.agg (enc_api_Count p0)] [] (iI r) []:=by
 refine C0 Tryz.func148 Tryz.call148 1 ?_
 delta ref11_Validate at h
 refine eN (eN ?_)
 obtain ⟨a,b,h⟩:=bS h
 refine cK (An (cW (c_ref11_Fits p0.Buckets p0.W p0.K p0.Cap p0.Now a b) (fr (r4 trivial))) (r1 ?_))
 refine cD h (fun g1 h=> ?_) (fun g1 h=> ?_)
 first|cases h|rw [←oJ h]
 exact eN (r1 trivial)
 first|cases h|rw [←oJ h]
 exact eN (r1 trivial)
theorem c_ref12_MayMax' (p0:Int) (r:Bool) (h:ref12_MayMax p0=r):Contract Tryz.prog 255 [iI p0] [] (.sb r) []:=by
 refine C0 Tryz.func255 Tryz.call255 1 ?_
 delta ref12_MayMax at h
 refine eN (eN (eN (An (fun g1=> ?_) (fun g1=> ?_))))
 cases h
 exact (An (Eq.symm (aR g1 rfl)) trivial)
 cases h
 exact (An (Eq.symm (aL g1)) trivial)
theorem c_ref12_Validate (p0:api_Sum) (r:Int) (h:ref12_Validate p0=some r):Contract Tryz.prog 151 [.agg (enc_api_Sum p0)] [] (iI r) []:=by
 refine C0 Tryz.func151 Tryz.call151 1 ?_
 delta ref12_Validate at h
 refine eN (eN ?_)
 obtain ⟨a,b,h⟩:=bS h
 refine eN (cK (An (cW (c_ref11_Fits p0.Buckets p0.W p0.K p0.Cap p0.Now a b) (fr (r4 trivial))) (r1 ?_)))
 refine An (fun g1=> ?_) (fun g1=> ?_)
 refine cK (An (cW (c_ref12_MayMax' p0.Max _ rfl) (r1 trivial)) (r1 ?_))
 refine An (fun g2=> ?_) (fun g2=> ?_)
 replace h:=cT (oR g1 g2) h
 first|cases h|rw [←oJ h]
 exact eN (r1 trivial)
 replace h:=cF (oR g1 g2) h
 first|cases h|rw [←oJ h]
 exact eN (r1 trivial)
 replace h:=cT (oL g1) h
 first|cases h|rw [←oJ h]
 exact eN (r1 trivial)
theorem c_ref13_Value' (p0:Int) (p1:Int) (r:Bool) (h:ref13_Value p0 p1=r):Contract Tryz.prog 213 [iI p0,iI p1] [] (.sb r) []:=by
 refine C0 Tryz.func213 Tryz.call213 1 ?_
 delta ref13_Value at h
 refine eN (eN (eN (cK (An (cW (c_ref09_Value' p1 _ rfl) (r1 trivial)) (r1 ?_)))))
 refine An (fun g1=> ?_) (fun g1=> ?_)
 refine An (fun g2=> ?_) (fun g2=> ?_)
 refine An (fun g3=> ?_) (fun g3=> ?_)
 cases h
 exact (An (Eq.symm (aR g1 (oR (oR g2 g3) rfl))) trivial)
 cases h
 exact (An (Eq.symm (aR g1 (oL (oR g2 g3)))) trivial)
 cases h
 exact (An (Eq.symm (aR g1 (oL (oL g2)))) trivial)
 cases h
 exact (An (Eq.symm (aL g1)) trivial)
theorem c_ref13_Part' (p0:Int) (p1:Int) (p2:Int) (p3:Int) (p4:Int) (r:Bool) (h:ref13_Part p0 p1 p2 p3 p4=r):Contract Tryz.prog 316 [iI p0,iI p1,iI p2,iI p3,iI p4] [] (.sb r) []:=by
 refine C0 Tryz.func316 Tryz.call316 1 ?_
 delta ref13_Part at h
 refine eN (eN (eN (An (fun g1=> ?_) (fun g1=> ?_))))
 refine An (fun g2=> ?_) (fun g2=> ?_)
 refine An (fun g3=> ?_) (fun g3=> ?_)
 refine An (fun g4=> ?_) (fun g4=> ?_)
 cases h
 exact (An (Eq.symm (aR (aR (aR (aR g1 g2) g3) g4) rfl)) trivial)
 cases h
 exact (An (Eq.symm (aL (aR (aR (aR g1 g2) g3) g4))) trivial)
 cases h
 exact (An (Eq.symm (aL (aL (aR (aR g1 g2) g3)))) trivial)
 cases h
 exact (An (Eq.symm (aL (aL (aL (aR g1 g2))))) trivial)
 cases h
 exact (An (Eq.symm (aL (aL (aL (aL g1))))) trivial)
theorem c_ref13_Marks (p0:(List api_Mark)) (p1:Int) (p2:Int) (p3:Int) (p4:Int) (p5:Int) (r:Bool) (h:ref13_Marks p0 p1 p2 p3 p4 p5=some r):Contract Tryz.prog 258 [lF 7 (List.map enc_api_Mark p0),iI p1,iI p2,iI p3,iI p4,iI p5] [] (.sb r) []:=by
 refine C0 Tryz.func258 Tryz.call258 1 ?_
 delta ref13_Marks at h
 refine eN (eN (eN (An (fun g1=> ?_) (fun g1=> ?_))))
 refine An (fun g2=> ?_) (fun g2=> ?_)
 replace h:=cT (oR g1 g2) h
 first|cases h|rw [←oJ h]
 exact eN (r1 trivial)
 replace h:=cF (oR g1 g2) h
 refine eN (eX [iI (p0.length:Int)] (An (lenS enc_api_Mark p0) ?_))
 replace h:ref13_Marks_l3 p0 p1 p2 p3 p4 p5 (0:Int)=some r:=h
 delta ref13_Marks_l3 at h
 obtain ⟨n1,h⟩:=loopS h
 refine eX (Sum.inl ⟨Int×Nat,fun q=> [tM 0 (lF 7 (List.map enc_api_Mark p0)),tM 1 (iI p1),tM 2 (iI p2),tM 3 (iI p3),tM 4 (iI p4),tM 5 (iI p5),tM 22 (lF 7 (List.map enc_api_Mark p0)),tM 23 (iI (p0.length:Int)),tM 24 (iI q.1)],fun q=>loopN (fun (s:Int)=>ref13_Marks_l3s p0 p1 p2 p3 p4 p5 s) q.2 q.1=some r,fun q=>q.2⟩) (An (eX [] (eX [] (eX ((0:Int),n1) (An h (r1 (fr (r5 (fr (r2 trivial))))))))) ?_)
 clear h
 refine fun q h=> ?_
 obtain ⟨b,n1⟩:=q
 obtain ⟨m1,x1,hm1,h,hl1,hr1⟩:=loopN_step h
 replace hm1:n1=m1+1:=hm1
 subst hm1
 replace h:ref13_Marks_l3s p0 p1 p2 p3 p4 p5 b=some x1:=h
 delta ref13_Marks_l3s at h
 refine eN (cD h (fun g3 h=> ?_) (fun g3 h=> ?_))
 refine eN (eN ?_)
 obtain ⟨a,j,h⟩:=bS h
 refine eX (enc_api_Mark a) (An (idx_map enc_api_Mark j) ?_)
 refine eN ?_
 obtain ⟨d,f,h⟩:=bS h
 refine eX (some (⟨Unit,fun _=> [tM 0 (lF 7 (List.map enc_api_Mark p0)),tM 1 (iI p1),tM 2 (iI p2),tM 3 (iI p3),tM 4 (iI p4),tM 5 (iI p5),tM 13 (iI b),tM 14 (.ptr 1028 0),tM 22 (lF 7 (List.map enc_api_Mark p0)),tM 23 (iI (p0.length:Int)),tM 24 (iI b),tM 68 (.sb (((((decide (a.Seq<(1:Int)))||(decide (a.Seq>p5)))||(a.N !=(w64 ((w64 (p5-a.Seq))+(1:Int)))))||(decide (a.N>p3)))||((decide (b>(0:Int)))&&(decide (d.Seq≥a.Seq))))),tB 1028 (enc_api_Mark a)],fun _=>True,fun _=>0⟩,1000000)) (An ?_ (fun _ _=> ?_))
 refine An (fun g4=> ?_) (fun g4=> ?_)
 refine An (fun g5=> ?_) (fun g5=> ?_)
 refine An (fun g6=> ?_) (fun g6=> ?_)
 refine An (fun g7=> ?_) (fun g7=> ?_)
 refine An (fun g8=> ?_) (fun g8=> ?_)
 refine eX (enc_api_Mark d) (An (idx_map enc_api_Mark (gdT (aR (nE (oR (oR (oR g4 g5) g6) g7)) g8) f)) ?_)
 exact jU (An trivial (r1 (fr (r6 (fr (r2 (An (Eq.symm (oR (oR (oR (oR g4 g5) g6) g7) (aR g8 rfl))) (r7 trivial))))))))
 exact jU (An trivial (r1 (fr (r6 (fr (r2 (An (Eq.symm (oR (oR (oR (oR g4 g5) g6) g7) (aL g8))) (r7 trivial))))))))
 exact jU (An trivial (r1 (fr (r6 (fr (r2 (An (Eq.symm (oL (oR (oR (oR g4 g5) g6) g7))) (r7 trivial))))))))
 exact jU (An trivial (r1 (fr (r6 (fr (r2 (An (Eq.symm (oL (oL (oR (oR g4 g5) g6)))) (r7 trivial))))))))
 exact jU (An trivial (r1 (fr (r6 (fr (r2 (An (Eq.symm (oL (oL (oL (oR g4 g5))))) (r7 trivial))))))))
 exact jU (An trivial (r1 (fr (r6 (fr (r2 (An (Eq.symm (oL (oL (oL (oL g4))))) (r7 trivial))))))))
 refine cD h (fun g9 h=> ?_) (fun g9 h=> ?_)
 cases retS h hr1
 exact eN (r1 trivial)
 refine eN ?_
 obtain ⟨e,g,h⟩:=bS h
 refine eX (some (⟨Unit,fun _=> [tM 0 (lF 7 (List.map enc_api_Mark p0)),tM 1 (iI p1),tM 2 (iI p2),tM 3 (iI p3),tM 4 (iI p4),tM 5 (iI p5),tM 13 (iI b),tM 14 (.ptr 1028 0),tM 22 (lF 7 (List.map enc_api_Mark p0)),tM 23 (iI (p0.length:Int)),tM 24 (iI b),tM 110 (.sb ((((!(ref06_Tick a.T))||(decide (a.T>p4)))||((decide (b>(0:Int)))&&(decide (e.T>a.T))))||(((decide (b>(0:Int)))||((p0.length:Int)==(1:Int)))&&(!(ref06_Live p4 p2 a.T))))),tB 1028 (enc_api_Mark a)],fun _=>True,fun _=>0⟩,2000000)) (An ?_ (fun _ _=> ?_))
 refine cK (An (cW (c_ref06_Tick' a.T _ rfl) (r1 trivial)) (r1 ?_))
 refine An (fun g10=> ?_) (fun g10=> ?_)
 refine An (fun g11=> ?_) (fun g11=> ?_)
 refine An (fun g12=> ?_) (fun g12=> ?_)
 refine eX (enc_api_Mark e) (An (idx_map enc_api_Mark (gdT (aR (nE (oR g10 g11)) g12) g)) ?_)
 refine An (fun g13=> ?_) (fun g13=> ?_)
 refine An (fun g14=> ?_) (fun g14=> ?_)
 exact absurd (Eq.trans (Eq.symm g12) g14) (by decide)
 refine cK (An (cW (c_ref06_Live' p4 p2 a.T _ rfl) (r3 trivial)) (r1 ?_))
 exact jU (An trivial (r1 (fr (r6 (fr (r2 (An (Eq.symm (oR (oR (oR g10 g11) (aR g12 g13)) (aR (oL g12) rfl))) (r7 trivial))))))))
 exact jU (An trivial (r1 (fr (r6 (fr (r2 (An (Eq.symm (oL (oR (oR g10 g11) (aR g12 g13)))) (r7 trivial))))))))
 refine An (fun g15=> ?_) (fun g15=> ?_)
 refine eX [iI (p0.length:Int)] (An (lenS enc_api_Mark p0) ?_)
 refine An (fun g16=> ?_) (fun g16=> ?_)
 refine cK (An (cW (c_ref06_Live' p4 p2 a.T _ rfl) (r3 trivial)) (r1 ?_))
 exact jU (An trivial (r1 (fr (r6 (fr (r2 (An (Eq.symm (oR (oR (oR g10 g11) (aL g12)) (aR (oR g12 g16) rfl))) (r7 trivial))))))))
 exact jU (An trivial (r1 (fr (r6 (fr (r2 (An (Eq.symm (oR (oR (oR g10 g11) (aL g12)) (aL (oR g12 g16)))) (r7 trivial))))))))
 exact absurd (Eq.trans (Eq.symm g15) g12) (by decide)
 exact jU (An trivial (r1 (fr (r6 (fr (r2 (An (Eq.symm (oL (oL (oR g10 g11)))) (r7 trivial))))))))
 exact jU (An trivial (r1 (fr (r6 (fr (r2 (An (Eq.symm (oL (oL (oL g10)))) (r7 trivial))))))))
 refine cD h (fun g17 h=> ?_) (fun g17 h=> ?_)
 cases retS h hr1
 exact eN (r1 trivial)
 refine eN (eN (cK (An (cW (c_ref13_Value' p1 a.Min _ rfl) (r2 trivial)) (r1 ?_))))
 refine An (fun g18=> ?_) (fun g18=> ?_)
 refine cK (An (cW (c_ref13_Value' p1 a.Max _ rfl) (r2 trivial)) (r1 ?_))
 refine An (fun g19=> ?_) (fun g19=> ?_)
 refine An (fun g20=> ?_) (fun g20=> ?_)
 refine An (fun g21=> ?_) (fun g21=> ?_)
 refine An (fun g22=> ?_) (fun g22=> ?_)
 refine An (fun g23=> ?_) (fun g23=> ?_)
 refine An (fun g24=> ?_) (fun g24=> ?_)
 refine cK (An (cW (c_ref13_Part' a.N a.S a.Q a.Min a.Max _ rfl) (r5 trivial)) (r1 ?_))
 refine An (fun g25=> ?_) (fun g25=> ?_)
 replace h:=cT (oR (oR (oR (oR (oR (oR (oR g18 g19) g20) g21) g22) g23) g24) g25) h
 cases retS h hr1
 exact eN (r1 trivial)
 replace h:=cF (oR (oR (oR (oR (oR (oR (oR g18 g19) g20) g21) g22) g23) g24) g25) h
 refine eN (eX (some (⟨Unit,fun _=> [tM 0 (lF 7 (List.map enc_api_Mark p0)),tM 1 (iI p1),tM 2 (iI p2),tM 3 (iI p3),tM 4 (iI p4),tM 5 (iI p5),tM 13 (iI b),tM 14 (.ptr 1028 0),tM 22 (lF 7 (List.map enc_api_Mark p0)),tM 23 (iI (p0.length:Int)),tM 24 (iI b),tM 209 (.sb ((b==(w64 ((p0.length:Int)-(1:Int))))&&((((a.Seq !=p5)||(a.Min !=a.S))||(a.Max !=a.S))||(a.Q !=(w64 (a.S*a.S)))))),tB 1028 (enc_api_Mark a)],fun _=>True,fun _=>0⟩,3000000)) (An ?_ (fun _ _=> ?_)))
 refine eX [iI (p0.length:Int)] (An (lenS enc_api_Mark p0) ?_)
 refine An (fun g26=> ?_) (fun g26=> ?_)
 refine An (fun g27=> ?_) (fun g27=> ?_)
 refine An (fun g28=> ?_) (fun g28=> ?_)
 refine An (fun g29=> ?_) (fun g29=> ?_)
 exact jU (An trivial (r1 (fr (r6 (fr (r2 (An (Eq.symm (aR g26 (oR (oR (oR g27 g28) g29) rfl))) (r7 trivial))))))))
 exact jU (An trivial (r1 (fr (r6 (fr (r2 (An (Eq.symm (aR g26 (oL (oR (oR g27 g28) g29)))) (r7 trivial))))))))
 exact jU (An trivial (r1 (fr (r6 (fr (r2 (An (Eq.symm (aR g26 (oL (oL (oR g27 g28))))) (r7 trivial))))))))
 exact jU (An trivial (r1 (fr (r6 (fr (r2 (An (Eq.symm (aR g26 (oL (oL (oL g27))))) (r7 trivial))))))))
 exact jU (An trivial (r1 (fr (r6 (fr (r2 (An (Eq.symm (aL g26)) (r7 trivial))))))))
 refine cD h (fun g30 h=> ?_) (fun g30 h=> ?_)
 cases retS h hr1
 exact eN (r1 trivial)
 refine eN (eN (cD h (fun g31 h=> ?_) (fun g31 h=> ?_)))
 refine eN ?_
 obtain ⟨c,i,h⟩:=bS h
 refine eX (enc_api_Mark c) (An (idx_map enc_api_Mark i) ?_)
 refine eN (eN (An (fun g32=> ?_) (fun g32=> ?_)))
 refine An (fun g33=> ?_) (fun g33=> ?_)
 refine cK (An (cW (c_ref13_Part' (w64 (c.N-a.N)) (w64 (c.S-a.S)) (w64 (c.Q-a.Q)) c.Min c.Max _ rfl) (r5 trivial)) (r1 ?_))
 refine An (fun g34=> ?_) (fun g34=> ?_)
 replace h:=cT (oR (oR g32 g33) g34) h
 cases retS h hr1
 exact eN (r1 trivial)
 replace h:=cF (oR (oR g32 g33) g34) h
 exact eN (jT (_,m1) (An (hl1 _ (oJ h).symm) (An (jL m1) (r1 (fr (r5 (fr (r2 trivial))))))))
 replace h:=cT (oL (oR g32 g33)) h
 cases retS h hr1
 exact eN (r1 trivial)
 replace h:=cT (oL (oL g32)) h
 cases retS h hr1
 exact eN (r1 trivial)
 exact eN (jT (_,m1) (An (hl1 _ (oJ h).symm) (An (jL m1) (r1 (fr (r5 (fr (r2 trivial))))))))
 replace h:=cT (oL (oR (oR (oR (oR (oR (oR g18 g19) g20) g21) g22) g23) g24)) h
 cases retS h hr1
 exact eN (r1 trivial)
 replace h:=cT (oL (oL (oR (oR (oR (oR (oR g18 g19) g20) g21) g22) g23))) h
 cases retS h hr1
 exact eN (r1 trivial)
 replace h:=cT (oL (oL (oL (oR (oR (oR (oR g18 g19) g20) g21) g22)))) h
 cases retS h hr1
 exact eN (r1 trivial)
 replace h:=cT (oL (oL (oL (oL (oR (oR (oR g18 g19) g20) g21))))) h
 cases retS h hr1
 exact eN (r1 trivial)
 replace h:=cT (oL (oL (oL (oL (oL (oR (oR g18 g19) g20)))))) h
 cases retS h hr1
 exact eN (r1 trivial)
 replace h:=cT (oL (oL (oL (oL (oL (oL (oR g18 g19))))))) h
 cases retS h hr1
 exact eN (r1 trivial)
 replace h:=cT (oL (oL (oL (oL (oL (oL (oL g18))))))) h
 cases retS h hr1
 exact eN (r1 trivial)
 replace h:=popS h hr1
 first|cases h|rw [←oJ h]
 exact eN (r1 trivial)
 replace h:=cT (oL g1) h
 first|cases h|rw [←oJ h]
 exact eN (r1 trivial)
theorem c_ref01_Sub' (p0:Int) (p1:Int) (r:(Int×Bool)) (h:ref01_Sub p0 p1=r):Contract Tryz.prog 296 [iI p0,iI p1] [] (.tup [iI r.1, .sb r.2]) []:=by
 refine C0 Tryz.func296 Tryz.call296 1 ?_
 delta ref01_Sub at h
 refine eN (eN (eX (some (⟨Unit,fun _=> [tM 0 (iI p0),tM 1 (iI p1),tM 23 (.sb (((decide (p1<(0:Int)))&&(decide (p0>(w64 ((9223372036854775807:Int)+p1)))))||((decide (p1>(0:Int)))&&(decide (p0<(w64 ((-9223372036854775808:Int)+p1)))))))],fun _=>True,fun _=>0⟩,1000000)) (An ?_ (fun _ _=> ?_))))
 refine An (fun g1=> ?_) (fun g1=> ?_)
 refine An (fun g2=> ?_) (fun g2=> ?_)
 refine An (fun g3=> ?_) (fun g3=> ?_)
 exact jU (An trivial (r3 (An (Eq.symm (oR (aR g1 g2) (aR g3 rfl))) trivial)))
 exact jU (An trivial (r3 (An (Eq.symm (oR (aR g1 g2) (aL g3))) trivial)))
 exact jU (An trivial (r3 (An (Eq.symm (oL (aR g1 g2))) trivial)))
 refine An (fun g4=> ?_) (fun g4=> ?_)
 exact jU (An trivial (r3 (An (Eq.symm (oR (aL g1) (aR g4 rfl))) trivial)))
 exact jU (An trivial (r3 (An (Eq.symm (oR (aL g1) (aL g4))) trivial)))
 refine cD h (fun g5 h=> ?_) (fun g5 h=> ?_)
 cases h
 exact eN (r2 trivial)
 cases h
 exact eN (r2 trivial)
theorem c_ref13_Of' (p0:api_Mark) (p1:Int) (r:Int) (h:ref13_Of p0 p1=r):Contract Tryz.prog 215 [.agg (enc_api_Mark p0),iI p1] [] (iI r) []:=by
 refine C0 Tryz.func215 Tryz.call215 1 ?_
 delta ref13_Of at h
 refine eN (eN (eN (eN (eN (cD h (fun g1 h=> ?_) (fun g1 h=> ?_))))))
 cases h
 exact eN (r1 trivial)
 refine eN (eN (cD h (fun g2 h=> ?_) (fun g2 h=> ?_)))
 cases h
 exact eN (r1 trivial)
 refine eN (eN (cD h (fun g3 h=> ?_) (fun g3 h=> ?_)))
 cases h
 exact eN (r1 trivial)
 refine eN (eX (some (⟨Unit,fun _=> [],fun _=>ref13_Of_j5=r,fun _=>0⟩,1000000)) (An ?_ ?_))
 refine cD h (fun g4 h=> ?_) (fun g4 h=> ?_)
 refine eN (cK (An (cW (c_ref01_Sub' p0.Max p0.Min _ rfl) (r2 trivial)) (r1 ?_)))
 refine eN (cD h (fun g5 h=> ?_) (fun g5 h=> ?_))
 cases h
 exact eN (r1 trivial)
 exact jU (An h (r1 trivial))
 exact jU (An h (r1 trivial))
 clear h
 refine fun _ h=> ?_
 replace h:ref13_Of_j5=r:=h
 delta ref13_Of_j5 at h
 cases h
 exact eN (r1 trivial)
theorem c_ref13_Validate (p0:api_Smooth) (r:Int) (h:ref13_Validate p0=some r):Contract Tryz.prog 152 [.agg (enc_api_Smooth p0)] [] (iI r) []:=by
 refine C0 Tryz.func152 Tryz.call152 1 ?_
 delta ref13_Validate at h
 refine eN (eN ?_)
 obtain ⟨f,g,h⟩:=bS h
 refine eN (cK (An (cW (c_ref13_MayAgg' p0.Agg _ rfl) (r1 trivial)) (r1 ?_)))
 refine An (fun g1=> ?_) (fun g1=> ?_)
 refine cK (An (cW (c_ref09_May' p0.W p0.Cap p0.Now _ rfl) (r3 trivial)) (r1 ?_))
 refine An (fun g2=> ?_) (fun g2=> ?_)
 refine cK (An (cW (c_ref11_MayK' p0.K _ rfl) (r1 trivial)) (r1 ?_))
 refine An (fun g3=> ?_) (fun g3=> ?_)
 refine cK (An (cW (c_ref13_Marks p0.Marks p0.Agg p0.W p0.Cap p0.Now p0.Seq f (gdT (nE (oR (oR g1 g2) g3)) g)) (fr (r5 trivial))) (r1 ?_))
 refine An (fun g4=> ?_) (fun g4=> ?_)
 replace h:=cT (oR (oR (oR g1 g2) g3) g4) h
 first|cases h|rw [←oJ h]
 exact eN (r1 trivial)
 replace h:=cF (oR (oR (oR g1 g2) g3) g4) h
 refine eN (eN (eX [iI (p0.Marks.length:Int)] (An (lenS enc_api_Mark p0.Marks) ?_)))
 replace h:ref13_Validate_l3 p0 (0:Int)=some r:=h
 delta ref13_Validate_l3 at h
 obtain ⟨n1,h⟩:=loopS h
 refine eX (Sum.inl ⟨Int×Nat,fun q=> [tM 1 (.ptr 1 0),tM 3 (iI p0.K),tM 45 (lF 7 (List.map enc_api_Mark p0.Marks)),tM 46 (iI (p0.Marks.length:Int)),tM 47 (iI q.1),tB 1 (enc_api_Smooth p0)],fun q=>loopN (fun (s:Int)=>ref13_Validate_l3s p0 s) q.2 q.1=some r,fun q=>q.2⟩) (An (eX [] (eX [] (eX ((0:Int),n1) (An h (r2 (fr (r8 (fr trivial)))))))) ?_)
 clear h
 refine fun q h=> ?_
 obtain ⟨a,n1⟩:=q
 obtain ⟨m1,x1,hm1,h,hl1,hr1⟩:=loopN_step h
 replace hm1:n1=m1+1:=hm1
 subst hm1
 replace h:ref13_Validate_l3s p0 a=some x1:=h
 delta ref13_Validate_l3s at h
 refine eN (cD h (fun g5 h=> ?_) (fun g5 h=> ?_))
 refine eN ?_
 obtain ⟨b,k,h⟩:=bS h
 refine eX (enc_api_Mark b) (An (idx_map enc_api_Mark k) ?_)
 refine eN ?_
 obtain ⟨c,i,h⟩:=bS h
 refine eX (some (⟨Unit,fun _=> [tM 1 (.ptr 1 0),tM 3 (iI p0.K),tM 4 (iI a),tM 5 (.ptr 1284 0),tM 45 (lF 7 (List.map enc_api_Mark p0.Marks)),tM 46 (iI (p0.Marks.length:Int)),tM 47 (iI a),tM 74 (.sb ((decide (a>(1:Int)))&&(decide ((w64 ((w64 (p0.K+(1:Int)))*(ref13_Of b p0.Agg)))≥(w64 (p0.K*(ref13_Of c p0.Agg))))))),tB 1 (enc_api_Smooth p0),tB 1284 (enc_api_Mark b)],fun _=>True,fun _=>0⟩,1000000)) (An ?_ (fun _ _=> ?_))
 refine An (fun g6=> ?_) (fun g6=> ?_)
 refine cK (An (cW (c_ref13_Of' b p0.Agg _ rfl) (r8 trivial)) (r1 ?_))
 refine eX (enc_api_Mark c) (An (idx_map enc_api_Mark (gdT g6 i)) ?_)
 refine cK (An (cW (c_ref13_Of' c p0.Agg _ rfl) (r8 trivial)) (r1 ?_))
 exact jU (An trivial (r3 (fr (r2 (An (Eq.symm (aR g6 rfl)) (r6 (fr (r7 trivial))))))))
 exact jU (An trivial (r3 (fr (r2 (An (Eq.symm (aL g6)) (r6 (fr (r7 trivial))))))))
 refine cD h (fun g7 h=> ?_) (fun g7 h=> ?_)
 cases retS h hr1
 exact eN (r1 trivial)
 refine eN ?_
 obtain ⟨e,l,h⟩:=bS h
 obtain ⟨d,j,h⟩:=bS h
 refine eX (some (⟨Unit,fun _=> [tM 1 (.ptr 1 0),tM 3 (iI p0.K),tM 45 (lF 7 (List.map enc_api_Mark p0.Marks)),tM 46 (iI (p0.Marks.length:Int)),tM 47 (iI a),tM 110 (.sb (((decide (a>(0:Int)))&&(decide (b.Seq>(w64 (e.Seq+(1:Int))))))&&(decide ((w64 ((w64 (p0.K+(1:Int)))*(ref13_Of b p0.Agg)))<(w64 (p0.K*(ref13_Of d p0.Agg))))))),tB 1 (enc_api_Smooth p0)],fun _=>True,fun _=>0⟩,2000000)) (An ?_ (fun _ _=> ?_))
 refine An (fun g8=> ?_) (fun g8=> ?_)
 refine eX (enc_api_Mark e) (An (idx_map enc_api_Mark (gdT g8 l)) ?_)
 refine An (fun g9=> ?_) (fun g9=> ?_)
 refine cK (An (cW (c_ref13_Of' b p0.Agg _ rfl) (r8 trivial)) (r1 ?_))
 refine eX (enc_api_Mark d) (An (idx_map enc_api_Mark (gdT (aR g8 g9) j)) ?_)
 refine cK (An (cW (c_ref13_Of' d p0.Agg _ rfl) (r8 trivial)) (r1 ?_))
 exact jU (An trivial (r2 (fr (r2 (An (Eq.symm (aR (aR g8 g9) rfl)) (r6 (fr trivial)))))))
 exact jU (An trivial (r2 (fr (r2 (An (Eq.symm (aL (aR g8 g9))) (r6 (fr trivial)))))))
 exact jU (An trivial (r2 (fr (r2 (An (Eq.symm (aL (aL g8))) (r6 (fr trivial)))))))
 refine cD h (fun g10 h=> ?_) (fun g10 h=> ?_)
 cases retS h hr1
 exact eN (r1 trivial)
 exact eN (jT (_,m1) (An (hl1 _ (oJ h).symm) (An (jL m1) (r2 (fr (r8 (fr trivial)))))))
 replace h:=popS h hr1
 first|cases h|rw [←oJ h]
 exact eN (r1 trivial)
 replace h:=cT (oL (oR (oR g1 g2) g3)) h
 first|cases h|rw [←oJ h]
 exact eN (r1 trivial)
 replace h:=cT (oL (oL (oR g1 g2))) h
 first|cases h|rw [←oJ h]
 exact eN (r1 trivial)
 replace h:=cT (oL (oL (oL g1))) h
 first|cases h|rw [←oJ h]
 exact eN (r1 trivial)
theorem c_ref14_May' (p0:api_Mark) (r:Bool) (h:ref14_May p0=r):Contract Tryz.prog 297 [.agg (enc_api_Mark p0)] [] (.sb r) []:=by
 refine C0 Tryz.func297 Tryz.call297 1 ?_
 delta ref14_May at h
 refine eN (eN (eN (An (fun g1=> ?_) (fun g1=> ?_))))
 refine An (fun g2=> ?_) (fun g2=> ?_)
 refine An (fun g3=> ?_) (fun g3=> ?_)
 refine An (fun g4=> ?_) (fun g4=> ?_)
 refine An (fun g5=> ?_) (fun g5=> ?_)
 refine An (fun g6=> ?_) (fun g6=> ?_)
 cases h
 exact (An (Eq.symm (aR (aR (aR (aR (aR (aR g1 g2) g3) g4) g5) g6) rfl)) trivial)
 cases h
 exact (An (Eq.symm (aL (aR (aR (aR (aR (aR g1 g2) g3) g4) g5) g6))) trivial)
 cases h
 exact (An (Eq.symm (aL (aL (aR (aR (aR (aR g1 g2) g3) g4) g5)))) trivial)
 cases h
 exact (An (Eq.symm (aL (aL (aL (aR (aR (aR g1 g2) g3) g4))))) trivial)
 cases h
 exact (An (Eq.symm (aL (aL (aL (aL (aR (aR g1 g2) g3)))))) trivial)
 cases h
 exact (An (Eq.symm (aL (aL (aL (aL (aL (aR g1 g2))))))) trivial)
 cases h
 exact (An (Eq.symm (aL (aL (aL (aL (aL (aL g1))))))) trivial)
theorem c_ref02_Product' (p0:Int) (p1:Int) (r:api_Wide) (h:ref02_Product p0 p1=r):Contract Tryz.prog 298 [iU p0,iU p1] [] (.agg [iU r.Hi,iU r.Lo]) []:=by
 refine C0 Tryz.func298 Tryz.call298 1 ?_
 delta ref02_Product at h
 refine eN (eN (cK (An (cW (c_math_bits_Mul64' p0 p1 _ rfl) (r2 trivial)) (r1 ?_))))
 cases h
 exact eN (r2 trivial)
theorem c_ref02_Compare' (p0:api_Wide) (p1:api_Wide) (r:Int) (h:ref02_Compare p0 p1=r):Contract Tryz.prog 259 [.agg [iU p0.Hi,iU p0.Lo], .agg [iU p1.Hi,iU p1.Lo]] [] (iI r) []:=by
 refine C0 Tryz.func259 Tryz.call259 1 ?_
 delta ref02_Compare at h
 refine eN (eN (eX (some (⟨Unit,fun _=> [tM 2 (.ptr 1 0),tM 3 (.ptr 2 0),tM 5 (.sb ((decide (p0.Hi<p1.Hi))||((p0.Hi==p1.Hi)&&(decide (p0.Lo<p1.Lo))))),tB 1 [iU p0.Hi,iU p0.Lo],tB 2 [iU p1.Hi,iU p1.Lo]],fun _=>True,fun _=>0⟩,1000000)) (An ?_ (fun _ _=> ?_))))
 refine An (fun g1=> ?_) (fun g1=> ?_)
 refine An (fun g2=> ?_) (fun g2=> ?_)
 exact jU (An trivial (r1 (An (Eq.symm (oR g1 (aR g2 rfl))) (r4 trivial))))
 exact jU (An trivial (r1 (An (Eq.symm (oR g1 (aL g2))) (r4 trivial))))
 exact jU (An trivial (r1 (An (Eq.symm (oL g1)) (r4 trivial))))
 refine cD h (fun g3 h=> ?_) (fun g3 h=> ?_)
 cases h
 exact eN (r1 trivial)
 refine eN (cD h (fun g4 h=> ?_) (fun g4 h=> ?_))
 cases h
 exact eN (r1 trivial)
 cases h
 exact eN (r1 trivial)
theorem c_ref14_Close' (p0:api_Mark) (p1:api_Mark) (p2:Int) (r:Bool) (h:ref14_Close p0 p1 p2=r):Contract Tryz.prog 216 [.agg (enc_api_Mark p0), .agg (enc_api_Mark p1),iI p2] [] (.sb r) []:=by
 refine C0 Tryz.func216 Tryz.call216 1 ?_
 delta ref14_Close at h
 refine eN (eN (eN (cK (An (cW (c_ref14_May' p0 _ rfl) (r7 trivial)) (r1 ?_)))))
 refine An (fun g1=> ?_) (fun g1=> ?_)
 refine cK (An (cW (c_ref14_May' p1 _ rfl) (r7 trivial)) (r1 ?_))
 refine An (fun g2=> ?_) (fun g2=> ?_)
 refine cK (An (cW (c_ref11_MayK' p2 _ rfl) (r1 trivial)) (r1 ?_))
 refine An (fun g3=> ?_) (fun g3=> ?_)
 refine An (fun g4=> ?_) (fun g4=> ?_)
 replace h:=cT (oR (oR (oR g1 g2) g3) g4) h
 cases h
 exact eN (r1 trivial)
 replace h:=cF (oR (oR (oR g1 g2) g3) g4) h
 refine eN (eN (cK (An (cW (c_ref02_Product' (wu64 (w64 ((w64 (p1.N*p1.Q))-(w64 (p1.S*p1.S))))) (wu64 (w64 ((w64 ((6:Int)*p2))*p0.N))) _ rfl) (r2 trivial)) (r1 ?_))))
 refine cK (An (cW (c_ref02_Product' (wu64 (w64 ((w64 (p0.N*p0.Q))-(w64 (p0.S*p0.S))))) (wu64 (w64 ((w64 ((w64 ((6:Int)*p2))-(1:Int)))*p1.N))) _ rfl) (r2 trivial)) (r1 ?_))
 refine cK (An (cW (c_ref02_Compare' (ref02_Product (wu64 (w64 ((w64 (p1.N*p1.Q))-(w64 (p1.S*p1.S))))) (wu64 (w64 ((w64 ((6:Int)*p2))*p0.N)))) (ref02_Product (wu64 (w64 ((w64 (p0.N*p0.Q))-(w64 (p0.S*p0.S))))) (wu64 (w64 ((w64 ((w64 ((6:Int)*p2))-(1:Int)))*p1.N)))) _ rfl) (r4 trivial)) (r1 ?_))
 cases h
 exact (r1 trivial)
 replace h:=cT (oL (oR (oR g1 g2) g3)) h
 cases h
 exact eN (r1 trivial)
 replace h:=cT (oL (oL (oR g1 g2))) h
 cases h
 exact eN (r1 trivial)
 replace h:=cT (oL (oL (oL g1))) h
 cases h
 exact eN (r1 trivial)
theorem c_ref14_Validate (p0:api_Spread) (r:Int) (h:ref14_Validate p0=some r):Contract Tryz.prog 154 [.agg (enc_api_Spread p0)] [] (iI r) []:=by
 refine C0 Tryz.func154 Tryz.call154 1 ?_
 delta ref14_Validate at h
 refine eN (eN ?_)
 obtain ⟨c,d,h⟩:=bS h
 refine eN (cK (An (cW (c_ref09_May' p0.W p0.Cap p0.Now _ rfl) (r3 trivial)) (r1 ?_)))
 refine An (fun g1=> ?_) (fun g1=> ?_)
 refine cK (An (cW (c_ref11_MayK' p0.K _ rfl) (r1 trivial)) (r1 ?_))
 refine An (fun g2=> ?_) (fun g2=> ?_)
 refine cK (An (cW (c_ref13_Marks p0.Marks (4:Int) p0.W p0.Cap p0.Now p0.Seq c (gdT (nE (oR g1 g2)) d)) (fr (r5 trivial))) (r1 ?_))
 refine An (fun g3=> ?_) (fun g3=> ?_)
 replace h:=cT (oR (oR g1 g2) g3) h
 first|cases h|rw [←oJ h]
 exact eN (r1 trivial)
 replace h:=cF (oR (oR g1 g2) g3) h
 refine eN ?_
 replace h:ref14_Validate_l3 p0 (2:Int)=some r:=h
 delta ref14_Validate_l3 at h
 obtain ⟨n1,h⟩:=loopS h
 refine eX (Sum.inl ⟨Int×Nat,fun q=> [tM 1 (.ptr 1 0),tM 3 (iI q.1),tB 1 (enc_api_Spread p0)],fun q=>loopN (fun (s:Int)=>ref14_Validate_l3s p0 s) q.2 q.1=some r,fun q=>q.2⟩) (An (eX [] (eX [] (eX ((2:Int),n1) (An h (r7 (fr trivial)))))) ?_)
 clear h
 refine fun q h=> ?_
 obtain ⟨e,n1⟩:=q
 obtain ⟨m1,x1,hm1,h,hl1,hr1⟩:=loopN_step h
 replace hm1:n1=m1+1:=hm1
 subst hm1
 replace h:ref14_Validate_l3s p0 e=some x1:=h
 delta ref14_Validate_l3s at h
 refine eN (eX [iI (p0.Marks.length:Int)] (An (lenS enc_api_Mark p0.Marks) ?_))
 refine cD h (fun g4 h=> ?_) (fun g4 h=> ?_)
 refine eN ?_
 obtain ⟨a,f,h⟩:=bS h
 obtain ⟨b,g,h⟩:=bS h
 refine eX (enc_api_Mark a) (An (idx_map enc_api_Mark f) ?_)
 refine eX (enc_api_Mark b) (An (idx_map enc_api_Mark g) ?_)
 refine cK (An (cW (c_ref14_Close' a b p0.K _ rfl) (r12 (r3 trivial))) (r1 ?_))
 refine cD h (fun g5 h=> ?_) (fun g5 h=> ?_)
 cases retS h hr1
 exact eN (r1 trivial)
 exact eN (jT (_,m1) (An (hl1 _ (oJ h).symm) (An (jL m1) (r7 (fr trivial)))))
 replace h:=popS h hr1
 first|cases h|rw [←oJ h]
 exact eN (r1 trivial)
 replace h:=cT (oL (oR g1 g2)) h
 first|cases h|rw [←oJ h]
 exact eN (r1 trivial)
 replace h:=cT (oL (oL g1)) h
 first|cases h|rw [←oJ h]
 exact eN (r1 trivial)
theorem c_ref02_Of' (p0:Int) (r:api_Wide) (h:ref02_Of p0=r):Contract Tryz.prog 219 [iU p0] [] (.agg [iU r.Hi,iU r.Lo]) []:=by
 refine C0 Tryz.func219 Tryz.call219 1 ?_
 delta ref02_Of at h
 cases h
 exact eN (eN (r2 trivial))
theorem c_ref02_Add (p0:api_Wide) (p1:api_Wide) (r:(api_Wide×Bool)) (h:ref02_Add p0 p1=some r):Contract Tryz.prog 299 [.agg [iU p0.Hi,iU p0.Lo], .agg [iU p1.Hi,iU p1.Lo]] [] (.tup [.agg [iU r.1.Hi,iU r.1.Lo], .sb r.2]) []:=by
 refine C0 Tryz.func299 Tryz.call299 1 ?_
 delta ref02_Add at h
 refine eN (eN ?_)
 obtain ⟨a,b,h⟩:=bS h
 refine cK (An (cW (c_math_bits_Add64 p0.Lo p1.Lo (0:Int) a b) (r3 trivial)) (r1 ?_))
 refine eN ?_
 obtain ⟨c,d,h⟩:=bS h
 refine cK (An (cW (c_math_bits_Add64 p0.Hi p1.Hi a.2 c d) (r3 trivial)) (r1 ?_))
 refine eN (cD h (fun g1 h=> ?_) (fun g1 h=> ?_))
 first|cases h|rw [←oJ h]
 exact eN (r3 trivial)
 first|cases h|rw [←oJ h]
 exact eN (r3 trivial)
theorem c_ref02_Mul (p0:api_Wide) (p1:api_Wide) (r:(api_Wide×Bool)) (h:ref02_Mul p0 p1=some r):Contract Tryz.prog 218 [.agg [iU p0.Hi,iU p0.Lo], .agg [iU p1.Hi,iU p1.Lo]] [] (.tup [.agg [iU r.1.Hi,iU r.1.Lo], .sb r.2]) []:=by
 refine C0 Tryz.func218 Tryz.call218 1 ?_
 delta ref02_Mul at h
 refine eN (eN (eX (some (⟨Unit,fun _=> [tM 2 (.ptr 1 0),tM 3 (.ptr 2 0),tM 4 (.ptr 3 0),tM 15 (.sb ((p0.Hi !=(0:Int))&&(p1.Hi !=(0:Int)))),tB 1 [iU p0.Hi,iU p0.Lo],tB 2 [iU p1.Hi,iU p1.Lo],tB 3 [iU (0:Int),iU (0:Int)]],fun _=>True,fun _=>0⟩,1000000)) (An ?_ (fun _ _=> ?_))))
 refine An (fun g1=> ?_) (fun g1=> ?_)
 exact jU (An trivial (r1 (An (Eq.symm (aR g1 rfl)) (r6 trivial))))
 exact jU (An trivial (r1 (An (Eq.symm (aL g1)) (r6 trivial))))
 refine cD h (fun g2 h=> ?_) (fun g2 h=> ?_)
 first|cases h|rw [←oJ h]
 exact eN (r3 trivial)
 refine eN (cK (An (cW (c_ref02_Product' p0.Hi p1.Lo _ rfl) (r2 trivial)) (r1 ?_)))
 refine cK (An (cW (c_ref02_Product' p0.Lo p1.Hi _ rfl) (r2 trivial)) (r1 ?_))
 refine eN (eN (An (fun g3=> ?_) (fun g3=> ?_)))
 refine An (fun g4=> ?_) (fun g4=> ?_)
 replace h:=cT (oR g3 g4) h
 first|cases h|rw [←oJ h]
 exact eN (r3 trivial)
 replace h:=cF (oR g3 g4) h
 refine eN ?_
 obtain ⟨a,b,h⟩:=bS h
 refine cK (An (cW (c_ref02_Product' p0.Lo p1.Lo _ rfl) (r2 trivial)) (r1 ?_))
 refine cK (An (cW (c_ref02_Add (ref02_Product p0.Lo p1.Lo) (api_Wide.mk (wu64 ((ref02_Product p0.Hi p1.Lo).Lo+(ref02_Product p0.Lo p1.Hi).Lo)) (0:Int)) a b) (r4 trivial)) (r1 ?_))
 first|cases h|rw [←oJ h]
 exact (r3 trivial)
 replace h:=cT (oL g3) h
 first|cases h|rw [←oJ h]
 exact eN (r3 trivial)
theorem c_ref15_Validate (p0:api_Poly) (r:Int) (h:ref15_Validate p0=some r):Contract Tryz.prog 155 [.agg (enc_api_Poly p0)] [] (iI r) []:=by
 refine C0 Tryz.func155 Tryz.call155 1 ?_
 delta ref15_Validate at h
 refine eN (eN (eN (An (fun g1=> ?_) (fun g1=> ?_))))
 refine An (fun g2=> ?_) (fun g2=> ?_)
 refine cK (An (cW (c_ref06_Tick' p0.Now _ rfl) (r1 trivial)) (r1 ?_))
 refine An (fun g3=> ?_) (fun g3=> ?_)
 refine An (fun g4=> ?_) (fun g4=> ?_)
 refine An (fun g5=> ?_) (fun g5=> ?_)
 refine eX [iI (p0.Moments.length:Int)] (An (lenS enc_api_Wide p0.Moments) ?_)
 refine An (fun g6=> ?_) (fun g6=> ?_)
 replace h:=cT (oR (oR (oR (oR (oR g1 g2) g3) g4) g5) g6) h
 first|cases h|rw [←oJ h]
 exact eN (r1 trivial)
 replace h:=cF (oR (oR (oR (oR (oR g1 g2) g3) g4) g5) g6) h
 refine eN ?_
 replace h:ref15_Validate_l3 p0 (1:Int)=some r:=h
 delta ref15_Validate_l3 at h
 obtain ⟨n1,h⟩:=loopS h
 refine eX (Sum.inl ⟨Int×Nat,fun q=> [tM 1 (.ptr 1 0),tM 3 (iI q.1),tB 1 (enc_api_Poly p0)],fun q=>loopN (fun (s:Int)=>ref15_Validate_l3s p0 s) q.2 q.1=some r,fun q=>q.2⟩) (An (eX [] (eX [] (eX ((1:Int),n1) (An h (r5 (fr trivial)))))) ?_)
 clear h
 refine fun q h=> ?_
 obtain ⟨f,n1⟩:=q
 obtain ⟨m1,x1,hm1,h,hl1,hr1⟩:=loopN_step h
 replace hm1:n1=m1+1:=hm1
 subst hm1
 replace h:ref15_Validate_l3s p0 f=some x1:=h
 delta ref15_Validate_l3s at h
 refine eN (cD h (fun g7 h=> ?_) (fun g7 h=> ?_))
 refine eN ?_
 obtain ⟨e,j,h⟩:=bS h
 obtain ⟨a,g,h⟩:=bS h
 refine eX [iU e.Hi,iU e.Lo] (An (idx_map enc_api_Wide j) ?_)
 refine cK (An (cW (c_ref02_Of' (wu64 (w64 ((w64 (p0.Now-p0.Land))+(1:Int)))) _ rfl) (r1 trivial)) (r1 ?_))
 refine cK (An (cW (c_ref02_Mul e (ref02_Of (wu64 (w64 ((w64 (p0.Now-p0.Land))+(1:Int))))) a g) (r4 trivial)) (r1 ?_))
 refine eN ?_
 obtain ⟨c,k,h⟩:=bS h
 obtain ⟨d,l,h⟩:=bS h
 obtain ⟨b,i,h⟩:=bS h
 refine eX (some (⟨Unit,fun _=> [tM 1 (.ptr 1 0),tM 3 (iI f),tM 90 (.sb ((decide ((ref02_Compare c d)<(0:Int)))||(a.2&&(decide ((ref02_Compare b a.1)>(0:Int)))))),tB 1 (enc_api_Poly p0)],fun _=>True,fun _=>0⟩,1000000)) (An ?_ (fun _ _=> ?_))
 refine eX [iU c.Hi,iU c.Lo] (An (idx_map enc_api_Wide k) ?_)
 refine eX [iU d.Hi,iU d.Lo] (An (idx_map enc_api_Wide l) ?_)
 refine cK (An (cW (c_ref02_Compare' c d _ rfl) (r4 trivial)) (r1 ?_))
 refine An (fun g8=> ?_) (fun g8=> ?_)
 refine An (fun g9=> ?_) (fun g9=> ?_)
 refine eX [iU b.Hi,iU b.Lo] (An (idx_map enc_api_Wide (gdT (aR (nE g8) g9) i)) ?_)
 refine cK (An (cW (c_ref02_Compare' b a.1 _ rfl) (r4 trivial)) (r1 ?_))
 exact jU (An trivial (r2 (An (Eq.symm (oR g8 (aR g9 rfl))) (r3 (fr trivial)))))
 exact jU (An trivial (r2 (An (Eq.symm (oR g8 (aL g9))) (r3 (fr trivial)))))
 exact jU (An trivial (r2 (An (Eq.symm (oL g8)) (r3 (fr trivial)))))
 refine cD h (fun g10 h=> ?_) (fun g10 h=> ?_)
 cases retS h hr1
 exact eN (r1 trivial)
 exact eN (jT (_,m1) (An (hl1 _ (oJ h).symm) (An (jL m1) (r5 (fr trivial)))))
 replace h:=popS h hr1
 first|cases h|rw [←oJ h]
 exact eN (r1 trivial)
 replace h:=cT (oL (oR (oR (oR (oR g1 g2) g3) g4) g5)) h
 first|cases h|rw [←oJ h]
 exact eN (r1 trivial)
 replace h:=cT (oL (oL (oR (oR (oR g1 g2) g3) g4))) h
 first|cases h|rw [←oJ h]
 exact eN (r1 trivial)
 replace h:=cT (oL (oL (oL (oR (oR g1 g2) g3)))) h
 first|cases h|rw [←oJ h]
 exact eN (r1 trivial)
 replace h:=cT (oL (oL (oL (oL (oR g1 g2))))) h
 first|cases h|rw [←oJ h]
 exact eN (r1 trivial)
 replace h:=cT (oL (oL (oL (oL (oL g1))))) h
 first|cases h|rw [←oJ h]
 exact eN (r1 trivial)
theorem c_ref16_Validate (p0:api_Halve) (r:Int) (h:ref16_Validate p0=some r):Contract Tryz.prog 156 [.agg [iI p0.Now,lF 1 (List.map (eI .i64) p0.Sums)]] [] (iI r) []:=by
 refine C0 Tryz.func156 Tryz.call156 1 ?_
 delta ref16_Validate at h
 refine eN (eN (eN (eX [iI (p0.Sums.length:Int)] (An (lenS (eI .i64) p0.Sums) ?_))))
 refine An (fun g1=> ?_) (fun g1=> ?_)
 refine eX [iI (p0.Sums.length:Int)] (An (lenS (eI .i64) p0.Sums) ?_)
 refine An (fun g2=> ?_) (fun g2=> ?_)
 refine cK (An (cW (c_ref06_Tick' p0.Now _ rfl) (r1 trivial)) (r1 ?_))
 refine An (fun g3=> ?_) (fun g3=> ?_)
 replace h:=cT (oR (oR g1 g2) g3) h
 first|cases h|rw [←oJ h]
 exact eN (r1 trivial)
 replace h:=cF (oR (oR g1 g2) g3) h
 refine eN (eX [iI (p0.Sums.length:Int)] (An (lenS (eI .i64) p0.Sums) ?_))
 replace h:ref16_Validate_l3 p0 (0:Int)=some r:=h
 delta ref16_Validate_l3 at h
 obtain ⟨n1,h⟩:=loopS h
 refine eX (Sum.inl ⟨Int×Nat,fun q=> [tM 1 (.ptr 1 0),tM 22 (lF 1 (List.map (eI .i64) p0.Sums)),tM 23 (iI (p0.Sums.length:Int)),tM 24 (iI q.1),tB 1 [iI p0.Now,lF 1 (List.map (eI .i64) p0.Sums)]],fun q=>loopN (fun (s:Int)=>ref16_Validate_l3s p0 s) q.2 q.1=some r,fun q=>q.2⟩) (An (eX [] (eX [] (eX ((0:Int),n1) (An h (r1 (fr (r3 (fr trivial)))))))) ?_)
 clear h
 refine fun q h=> ?_
 obtain ⟨a,n1⟩:=q
 obtain ⟨m1,x1,hm1,h,hl1,hr1⟩:=loopN_step h
 replace hm1:n1=m1+1:=hm1
 subst hm1
 replace h:ref16_Validate_l3s p0 a=some x1:=h
 delta ref16_Validate_l3s at h
 refine eN (cD h (fun g4 h=> ?_) (fun g4 h=> ?_))
 refine eN ?_
 obtain ⟨b,c,h⟩:=bS h
 refine eX [iI b] (An (idx_map (eI .i64) c) ?_)
 refine eN (eX (some (⟨Unit,fun _=> [tM 1 (.ptr 1 0),tM 22 (lF 1 (List.map (eI .i64) p0.Sums)),tM 23 (iI (p0.Sums.length:Int)),tM 24 (iI a),tM 44 (.sb (((decide (b<(0:Int)))||(decide (b>(1099511627776:Int))))||((decide (a>p0.Now))&&(b !=(0:Int))))),tB 1 [iI p0.Now,lF 1 (List.map (eI .i64) p0.Sums)]],fun _=>True,fun _=>0⟩,1000000)) (An ?_ (fun _ _=> ?_)))
 refine An (fun g5=> ?_) (fun g5=> ?_)
 refine An (fun g6=> ?_) (fun g6=> ?_)
 refine An (fun g7=> ?_) (fun g7=> ?_)
 exact jU (An trivial (r1 (fr (r2 (An (Eq.symm (oR (oR g5 g6) (aR g7 rfl))) (r1 (fr trivial)))))))
 exact jU (An trivial (r1 (fr (r2 (An (Eq.symm (oR (oR g5 g6) (aL g7))) (r1 (fr trivial)))))))
 exact jU (An trivial (r1 (fr (r2 (An (Eq.symm (oL (oR g5 g6))) (r1 (fr trivial)))))))
 exact jU (An trivial (r1 (fr (r2 (An (Eq.symm (oL (oL g5))) (r1 (fr trivial)))))))
 refine cD h (fun g8 h=> ?_) (fun g8 h=> ?_)
 cases retS h hr1
 exact eN (r1 trivial)
 exact eN (jT (_,m1) (An (hl1 _ (oJ h).symm) (An (jL m1) (r1 (fr (r3 (fr trivial)))))))
 replace h:=popS h hr1
 first|cases h|rw [←oJ h]
 exact eN (r1 trivial)
 replace h:=cT (oL (oR g1 g2)) h
 first|cases h|rw [←oJ h]
 exact eN (r1 trivial)
 replace h:=cT (oL (oL g1)) h
 first|cases h|rw [←oJ h]
 exact eN (r1 trivial)
theorem c_ref17_better' (p0:Bool) (p1:Int) (p2:Int) (r:Bool) (h:ref17_better p0 p1 p2=r):Contract Tryz.prog 260 [.sb p0,iI p1,iI p2] [] (.sb r) []:=by
 refine C0 Tryz.func260 Tryz.call260 1 ?_
 delta ref17_better at h
 refine eN (eN (eN (An (fun g1=> ?_) (fun g1=> ?_))))
 refine An (fun g2=> ?_) (fun g2=> ?_)
 refine An (fun g3=> ?_) (fun g3=> ?_)
 exact absurd (Eq.trans (Eq.symm g1) (nT g3)) (by decide)
 cases h
 exact (An (Eq.symm (oR (aR g1 g2) (aL g3))) trivial)
 cases h
 exact (An (Eq.symm (oL (aR g1 g2))) trivial)
 refine An (fun g4=> ?_) (fun g4=> ?_)
 cases h
 exact (An (Eq.symm (oR (aL g1) (aR g4 rfl))) trivial)
 exact absurd (Eq.trans (Eq.symm (nF g4)) g1) (by decide)
theorem c_ref17_Validate (p0:api_Extreme) (r:Int) (h:ref17_Validate p0=some r):Contract Tryz.prog 157 [.agg (enc_api_Extreme p0)] [] (iI r) []:=by
 refine C0 Tryz.func157 Tryz.call157 1 ?_
 delta ref17_Validate at h
 refine eN (eN (eN (cK (An (cW (c_ref09_May' p0.W p0.Cap p0.Now _ rfl) (r3 trivial)) (r1 ?_)))))
 refine An (fun g1=> ?_) (fun g1=> ?_)
 refine eX [iI (p0.Items.length:Int)] (An (lenS enc_api_Item p0.Items) ?_)
 refine An (fun g2=> ?_) (fun g2=> ?_)
 replace h:=cT (oR g1 g2) h
 first|cases h|rw [←oJ h]
 exact eN (r1 trivial)
 replace h:=cF (oR g1 g2) h
 refine eN (eX [iI (p0.Items.length:Int)] (An (lenS enc_api_Item p0.Items) ?_))
 replace h:ref17_Validate_l3 p0 (0:Int)=some r:=h
 delta ref17_Validate_l3 at h
 obtain ⟨n1,h⟩:=loopS h
 refine eX (Sum.inl ⟨Int×Nat,fun q=> [tM 1 (.ptr 1 0),tM 22 (lF 2 (List.map enc_api_Item p0.Items)),tM 23 (iI (p0.Items.length:Int)),tM 24 (iI q.1),tB 1 (enc_api_Extreme p0)],fun q=>loopN (fun (s:Int)=>ref17_Validate_l3s p0 s) q.2 q.1=some r,fun q=>q.2⟩) (An (eX [] (eX [] (eX ((0:Int),n1) (An h (r1 (fr (r6 (fr trivial)))))))) ?_)
 clear h
 refine fun q h=> ?_
 obtain ⟨c,n1⟩:=q
 obtain ⟨m1,x1,hm1,h,hl1,hr1⟩:=loopN_step h
 replace hm1:n1=m1+1:=hm1
 subst hm1
 replace h:ref17_Validate_l3s p0 c=some x1:=h
 delta ref17_Validate_l3s at h
 refine eN (cD h (fun g3 h=> ?_) (fun g3 h=> ?_))
 refine eN ?_
 obtain ⟨a,g,h⟩:=bS h
 refine eX [iI a.T,iI a.V] (An (idx_map enc_api_Item g) ?_)
 refine eN ?_
 obtain ⟨d,e,h⟩:=bS h
 obtain ⟨b,f,h⟩:=bS h
 refine eX (some (⟨Unit,fun _=> [tM 1 (.ptr 1 0),tM 22 (lF 2 (List.map enc_api_Item p0.Items)),tM 23 (iI (p0.Items.length:Int)),tM 24 (iI c),tM 73 (.sb (((!(ref06_Live p0.Now p0.W a.T))||(!(ref09_Value a.V)))||((decide (c>(0:Int)))&&((decide (d.T≥a.T))||(!(ref17_better p0.Max b.V a.V)))))),tB 1 (enc_api_Extreme p0)],fun _=>True,fun _=>0⟩,1000000)) (An ?_ (fun _ _=> ?_))
 refine cK (An (cW (c_ref06_Live' p0.Now p0.W a.T _ rfl) (r3 trivial)) (r1 ?_))
 refine An (fun g4=> ?_) (fun g4=> ?_)
 refine cK (An (cW (c_ref09_Value' a.V _ rfl) (r1 trivial)) (r1 ?_))
 refine An (fun g5=> ?_) (fun g5=> ?_)
 refine An (fun g6=> ?_) (fun g6=> ?_)
 refine eX [iI d.T,iI d.V] (An (idx_map enc_api_Item (gdT (aR (nE (oR g4 g5)) g6) e)) ?_)
 refine An (fun g7=> ?_) (fun g7=> ?_)
 refine eX [iI b.T,iI b.V] (An (idx_map enc_api_Item (gdT (aR (aR (nE (oR g4 g5)) g6) (nE g7)) f)) ?_)
 refine cK (An (cW (c_ref17_better' p0.Max b.V a.V _ rfl) (r3 trivial)) (r1 ?_))
 exact jU (An trivial (r1 (fr (r2 (An (Eq.symm (oR (oR g4 g5) (aR g6 (oR g7 rfl)))) (r4 (fr trivial)))))))
 exact jU (An trivial (r1 (fr (r2 (An (Eq.symm (oR (oR g4 g5) (aR g6 (oL g7)))) (r4 (fr trivial)))))))
 exact jU (An trivial (r1 (fr (r2 (An (Eq.symm (oR (oR g4 g5) (aL g6))) (r4 (fr trivial)))))))
 exact jU (An trivial (r1 (fr (r2 (An (Eq.symm (oL (oR g4 g5))) (r4 (fr trivial)))))))
 exact jU (An trivial (r1 (fr (r2 (An (Eq.symm (oL (oL g4))) (r4 (fr trivial)))))))
 refine cD h (fun g8 h=> ?_) (fun g8 h=> ?_)
 cases retS h hr1
 exact eN (r1 trivial)
 exact eN (jT (_,m1) (An (hl1 _ (oJ h).symm) (An (jL m1) (r1 (fr (r6 (fr trivial)))))))
 replace h:=popS h hr1
 first|cases h|rw [←oJ h]
 exact eN (r1 trivial)
 replace h:=cT (oL g1) h
 first|cases h|rw [←oJ h]
 exact eN (r1 trivial)
theorem c_ref18_Validate (p0:api_Chain) (r:Int) (h:ref18_Validate p0=some r):Contract Tryz.prog 300 [.agg (enc_api_Chain p0)] [] (iI r) []:=by
 refine C0 Tryz.func300 Tryz.call300 1 ?_
 delta ref18_Validate at h
 refine eN (eN (eN (cK (An (cW (c_ref06_Window' p0.W _ rfl) (r1 trivial)) (r1 ?_)))))
 refine An (fun g1=> ?_) (fun g1=> ?_)
 refine An (fun g2=> ?_) (fun g2=> ?_)
 refine An (fun g3=> ?_) (fun g3=> ?_)
 refine An (fun g4=> ?_) (fun g4=> ?_)
 refine An (fun g5=> ?_) (fun g5=> ?_)
 refine eX [iI (p0.Links.length:Int)] (An (lenS enc_api_Link p0.Links) ?_)
 refine An (fun g6=> ?_) (fun g6=> ?_)
 replace h:=cT (oR (oR (oR (oR (oR g1 g2) g3) g4) g5) g6) h
 first|cases h|rw [←oJ h]
 exact eN (r1 trivial)
 replace h:=cF (oR (oR (oR (oR (oR g1 g2) g3) g4) g5) g6) h
 refine eN (cD h (fun g7 h=> ?_) (fun g7 h=> ?_))
 refine eN (eN (eX [iI (p0.Links.length:Int)] (An (lenS enc_api_Link p0.Links) ?_)))
 refine An (fun g8=> ?_) (fun g8=> ?_)
 refine An (fun g9=> ?_) (fun g9=> ?_)
 replace h:=cT (oR g8 g9) h
 first|cases h|rw [←oJ h]
 exact eN (r1 trivial)
 replace h:=cF (oR g8 g9) h
 first|cases h|rw [←oJ h]
 exact eN (r1 trivial)
 replace h:=cT (oL g8) h
 first|cases h|rw [←oJ h]
 exact eN (r1 trivial)
 refine eN ?_
 obtain ⟨g,n,h⟩:=bS h
 obtain ⟨f,l,h⟩:=bS h
 refine eN (eX [iI (p0.Links.length:Int)] (An (lenS enc_api_Link p0.Links) ?_))
 refine An (fun g10=> ?_) (fun g10=> ?_)
 refine eX [iI g.I,iI g.V] (An (idx_map enc_api_Link (gdT (nE g10) n)) ?_)
 refine An (fun g11=> ?_) (fun g11=> ?_)
 refine eX [iI f.I,iI f.V] (An (idx_map enc_api_Link (gdT (nE (oR g10 g11)) l)) ?_)
 refine An (fun g12=> ?_) (fun g12=> ?_)
 replace h:=cT (oR (oR g10 g11) g12) h
 first|cases h|rw [←oJ h]
 exact eN (r1 trivial)
 replace h:=cF (oR (oR g10 g11) g12) h
 refine eN (eX [iI (p0.Links.length:Int)] (An (lenS enc_api_Link p0.Links) ?_))
 replace h:ref18_Validate_l6 p0 (0:Int)=some r:=h
 delta ref18_Validate_l6 at h
 obtain ⟨n1,h⟩:=loopS h
 refine eX (Sum.inl ⟨Int×Nat,fun q=> [tM 1 (.ptr 1 0),tM 75 (lF 2 (List.map enc_api_Link p0.Links)),tM 76 (iI (p0.Links.length:Int)),tM 77 (iI q.1),tB 1 (enc_api_Chain p0)],fun q=>loopN (fun (s:Int)=>ref18_Validate_l6s p0 s) q.2 q.1=some r,fun q=>q.2⟩) (An (eX [] (eX [] (eX ((0:Int),n1) (An h (r1 (fr (r6 (fr trivial)))))))) ?_)
 clear h
 refine fun q h=> ?_
 obtain ⟨d,n1⟩:=q
 obtain ⟨m1,x1,hm1,h,hl1,hr1⟩:=loopN_step h
 replace hm1:n1=m1+1:=hm1
 subst hm1
 replace h:ref18_Validate_l6s p0 d=some x1:=h
 delta ref18_Validate_l6s at h
 refine eN (cD h (fun g13 h=> ?_) (fun g13 h=> ?_))
 refine eN ?_
 obtain ⟨a,m,h⟩:=bS h
 refine eX [iI a.I,iI a.V] (An (idx_map enc_api_Link m) ?_)
 refine eN ?_
 obtain ⟨b,i,h⟩:=bS h
 obtain ⟨c,j,h⟩:=bS h
 refine eX (some (⟨Unit,fun _=> [tM 1 (.ptr 1 0),tM 75 (lF 2 (List.map enc_api_Link p0.Links)),tM 76 (iI (p0.Links.length:Int)),tM 77 (iI d),tM 123 (.sb (((!(ref09_Value a.V))||(decide (a.I>p0.I)))||((decide (d>(0:Int)))&&((decide (a.I≤b.I))||(decide (a.I>(w64 (c.I+p0.W)))))))),tB 1 (enc_api_Chain p0)],fun _=>True,fun _=>0⟩,1000000)) (An ?_ (fun _ _=> ?_))
 refine cK (An (cW (c_ref09_Value' a.V _ rfl) (r1 trivial)) (r1 ?_))
 refine An (fun g14=> ?_) (fun g14=> ?_)
 refine An (fun g15=> ?_) (fun g15=> ?_)
 refine An (fun g16=> ?_) (fun g16=> ?_)
 refine eX [iI b.I,iI b.V] (An (idx_map enc_api_Link (gdT (aR (nE (oR g14 g15)) g16) i)) ?_)
 refine An (fun g17=> ?_) (fun g17=> ?_)
 refine eX [iI c.I,iI c.V] (An (idx_map enc_api_Link (gdT (aR (aR (nE (oR g14 g15)) g16) (nE g17)) j)) ?_)
 exact jU (An trivial (r1 (fr (r2 (An (Eq.symm (oR (oR g14 g15) (aR g16 (oR g17 rfl)))) (r4 (fr trivial)))))))
 exact jU (An trivial (r1 (fr (r2 (An (Eq.symm (oR (oR g14 g15) (aR g16 (oL g17)))) (r4 (fr trivial)))))))
 exact jU (An trivial (r1 (fr (r2 (An (Eq.symm (oR (oR g14 g15) (aL g16))) (r4 (fr trivial)))))))
 exact jU (An trivial (r1 (fr (r2 (An (Eq.symm (oL (oR g14 g15))) (r4 (fr trivial)))))))
 exact jU (An trivial (r1 (fr (r2 (An (Eq.symm (oL (oL g14))) (r4 (fr trivial)))))))
 refine cD h (fun g18 h=> ?_) (fun g18 h=> ?_)
 cases retS h hr1
 exact eN (r1 trivial)
 exact eN (jT (_,m1) (An (hl1 _ (oJ h).symm) (An (jL m1) (r1 (fr (r6 (fr trivial)))))))
 replace h:=popS h hr1
 refine eN ?_
 obtain ⟨e,k,h⟩:=bS h
 refine eN (An (fun g19=> ?_) (fun g19=> ?_))
 refine eX [iI (p0.Links.length:Int)] (An (lenS enc_api_Link p0.Links) ?_)
 refine eX [iI e.I,iI e.V] (An (idx_map enc_api_Link (gdT (nE g19) k)) ?_)
 refine An (fun g20=> ?_) (fun g20=> ?_)
 replace h:=cT (oR g19 g20) h
 first|cases h|rw [←oJ h]
 exact eN (r1 trivial)
 replace h:=cF (oR g19 g20) h
 first|cases h|rw [←oJ h]
 exact eN (r1 trivial)
 replace h:=cT (oL g19) h
 first|cases h|rw [←oJ h]
 exact eN (r1 trivial)
 replace h:=cT (oL (oR g10 g11)) h
 first|cases h|rw [←oJ h]
 exact eN (r1 trivial)
 replace h:=cT (oL (oL g10)) h
 first|cases h|rw [←oJ h]
 exact eN (r1 trivial)
 replace h:=cT (oL (oR (oR (oR (oR g1 g2) g3) g4) g5)) h
 first|cases h|rw [←oJ h]
 exact eN (r1 trivial)
 replace h:=cT (oL (oL (oR (oR (oR g1 g2) g3) g4))) h
 first|cases h|rw [←oJ h]
 exact eN (r1 trivial)
 replace h:=cT (oL (oL (oL (oR (oR g1 g2) g3)))) h
 first|cases h|rw [←oJ h]
 exact eN (r1 trivial)
 replace h:=cT (oL (oL (oL (oL (oR g1 g2))))) h
 first|cases h|rw [←oJ h]
 exact eN (r1 trivial)
 replace h:=cT (oL (oL (oL (oL (oL g1))))) h
 first|cases h|rw [←oJ h]
 exact eN (r1 trivial)
theorem c_ref19_Validate (p0:api_Sample) (r:Int) (h:ref19_Validate p0=some r):Contract Tryz.prog 222 [.agg [lF 5 (List.map enc_api_Chain p0.Chains)]] [] (iI r) []:=by
 refine C0 Tryz.func222 Tryz.call222 1 ?_
 delta ref19_Validate at h
 refine eN (eN (eN (eX [iI (p0.Chains.length:Int)] (An (lenS enc_api_Chain p0.Chains) ?_))))
 refine An (fun g1=> ?_) (fun g1=> ?_)
 refine eX [iI (p0.Chains.length:Int)] (An (lenS enc_api_Chain p0.Chains) ?_)
 refine An (fun g2=> ?_) (fun g2=> ?_)
 replace h:=cT (oR g1 g2) h
 first|cases h|rw [←oJ h]
 exact eN (r1 trivial)
 replace h:=cF (oR g1 g2) h
 refine eN (eX [iI (p0.Chains.length:Int)] (An (lenS enc_api_Chain p0.Chains) ?_))
 replace h:ref19_Validate_l3 p0 (0:Int)=some r:=h
 delta ref19_Validate_l3 at h
 obtain ⟨n1,h⟩:=loopS h
 refine eX (Sum.inl ⟨Int×Nat,fun q=> [tM 1 (.ptr 1 0),tM 17 (lF 5 (List.map enc_api_Chain p0.Chains)),tM 18 (iI (p0.Chains.length:Int)),tM 19 (iI q.1),tB 1 [lF 5 (List.map enc_api_Chain p0.Chains)]],fun q=>loopN (fun (s:Int)=>ref19_Validate_l3s p0 s) q.2 q.1=some r,fun q=>q.2⟩) (An (eX [] (eX [] (eX ((0:Int),n1) (An h (r1 (fr (r2 (fr trivial)))))))) ?_)
 clear h
 refine fun q h=> ?_
 obtain ⟨b,n1⟩:=q
 obtain ⟨m1,x1,hm1,h,hl1,hr1⟩:=loopN_step h
 replace hm1:n1=m1+1:=hm1
 subst hm1
 replace h:ref19_Validate_l3s p0 b=some x1:=h
 delta ref19_Validate_l3s at h
 refine eN (cD h (fun g3 h=> ?_) (fun g3 h=> ?_))
 refine eN ?_
 obtain ⟨a,c,h⟩:=bS h
 refine eX (enc_api_Chain a) (An (idx_map enc_api_Chain c) ?_)
 refine eN ?_
 obtain ⟨d,e,h⟩:=bS h
 refine eX (enc_api_Chain d) (An (idx_map enc_api_Chain e) ?_)
 refine eN ?_
 obtain ⟨f,g,h⟩:=bS h
 refine eN (cK (An (cW (c_ref18_Validate a f g) (r4 (fr trivial))) (r1 ?_)))
 refine An (fun g4=> ?_) (fun g4=> ?_)
 refine An (fun g5=> ?_) (fun g5=> ?_)
 refine An (fun g6=> ?_) (fun g6=> ?_)
 refine An (fun g7=> ?_) (fun g7=> ?_)
 replace h:=cT (oR (oR (oR g4 g5) g6) g7) h
 cases retS h hr1
 exact eN (r1 trivial)
 replace h:=cF (oR (oR (oR g4 g5) g6) g7) h
 exact eN (jT (_,m1) (An (hl1 _ (oJ h).symm) (An (jL m1) (r1 (fr (r2 (fr trivial)))))))
 replace h:=cT (oL (oR (oR g4 g5) g6)) h
 cases retS h hr1
 exact eN (r1 trivial)
 replace h:=cT (oL (oL (oR g4 g5))) h
 cases retS h hr1
 exact eN (r1 trivial)
 replace h:=cT (oL (oL (oL g4))) h
 cases retS h hr1
 exact eN (r1 trivial)
 replace h:=popS h hr1
 first|cases h|rw [←oJ h]
 exact eN (r1 trivial)
 replace h:=cT (oL g1) h
 first|cases h|rw [←oJ h]
 exact eN (r1 trivial)
theorem c_ref20_New' (p0:Int) (p1:Int) (r:(api_Summary×Int)) (h:ref20_New p0 p1=r):Contract Tryz.prog 302 [iI p0,iI p1] [] (.tup [.agg (enc_api_Summary r.1),iI r.2]) []:=by
 refine C0 Tryz.func302 Tryz.call302 1 ?_
 delta ref20_New at h
 refine eN (eN (eN (cK (An (cW (c_ref11_MayK' p0 _ rfl) (r1 trivial)) (r1 ?_)))))
 refine An (fun g1=> ?_) (fun g1=> ?_)
 refine An (fun g2=> ?_) (fun g2=> ?_)
 refine An (fun g3=> ?_) (fun g3=> ?_)
 replace h:=cT (oR (oR g1 g2) g3) h
 cases h
 exact eN (r5 trivial)
 replace h:=cF (oR (oR g1 g2) g3) h
 cases h
 exact eN (r5 trivial)
 replace h:=cT (oL (oR g1 g2)) h
 cases h
 exact eN (r5 trivial)
 replace h:=cT (oL (oL g1)) h
 cases h
 exact eN (r5 trivial)
theorem c_ref20_M (p0:api_Summary) (r:Int) (h:ref20_M p0=some r):Contract Tryz.prog 303 [.agg (enc_api_Summary p0)] [] (iI r) []:=by
 refine C0 Tryz.func303 Tryz.call303 1 ?_
 delta ref20_M at h
 refine eN (eN ?_)
 obtain ⟨a,h⟩:=ckS h
 refine An (oD a) ?_
 first|cases h|rw [←oJ h]
 exact (r1 trivial)
theorem c_ref20_Validate (p0:api_Summary) (r:Int) (h:ref20_Validate p0=some r):Contract Tryz.prog 224 [.agg (enc_api_Summary p0)] [] (iI r) []:=by
 refine C0 Tryz.func224 Tryz.call224 1 ?_
 delta ref20_Validate at h
 refine eN (eN (cK (An (cW (c_ref20_New' p0.K p0.Cap _ rfl) (r2 trivial)) (r1 ?_))))
 refine eN (eN (An (fun g1=> ?_) (fun g1=> ?_)))
 refine An (fun g2=> ?_) (fun g2=> ?_)
 refine An (fun g3=> ?_) (fun g3=> ?_)
 refine eX [iI (p0.Tuples.length:Int)] (An (lenS enc_api_Tuple p0.Tuples) ?_)
 refine An (fun g4=> ?_) (fun g4=> ?_)
 refine eX [iI (p0.Tuples.length:Int)] (An (lenS enc_api_Tuple p0.Tuples) ?_)
 refine An (fun g5=> ?_) (fun g5=> ?_)
 replace h:=cT (oR (oR (oR (oR g1 g2) g3) g4) g5) h
 first|cases h|rw [←oJ h]
 exact eN (r1 trivial)
 replace h:=cF (oR (oR (oR (oR g1 g2) g3) g4) g5) h
 refine eN (eN (eX [iI (p0.Tuples.length:Int)] (An (lenS enc_api_Tuple p0.Tuples) ?_)))
 replace h:ref20_Validate_l3 p0 (0:Int) (0:Int)=some r:=h
 delta ref20_Validate_l3 at h
 obtain ⟨n1,h⟩:=loopS h
 refine eX (Sum.inl ⟨(Int×Int)×Nat,fun q=> [tM 1 (.ptr 1 0),tM 5 (iI q.1.1),tM 47 (lF 3 (List.map enc_api_Tuple p0.Tuples)),tM 48 (iI (p0.Tuples.length:Int)),tM 49 (iI q.1.2),tB 1 (enc_api_Summary p0)],fun q=>loopN (fun (s:(Int×Int))=>ref20_Validate_l3s p0 s.1 s.2) q.2 q.1=some r,fun q=>q.2⟩) (An (eX [] (eX [] (eX (((0:Int),(0:Int)),n1) (An h (r2 (fr (r5 (fr trivial)))))))) ?_)
 clear h
 refine fun q h=> ?_
 obtain ⟨⟨e,b⟩,n1⟩:=q
 obtain ⟨m1,x1,hm1,h,hl1,hr1⟩:=loopN_step h
 replace hm1:n1=m1+1:=hm1
 subst hm1
 replace h:ref20_Validate_l3s p0 e b=some x1:=h
 delta ref20_Validate_l3s at h
 refine eN (cD h (fun g6 h=> ?_) (fun g6 h=> ?_))
 refine eN ?_
 obtain ⟨a,i,h⟩:=bS h
 refine eX [iI a.V,iI a.G,iI a.D] (An (idx_map enc_api_Tuple i) ?_)
 refine eN ?_
 obtain ⟨d,f,h⟩:=bS h
 obtain ⟨c,g,h⟩:=bS h
 refine eX (some (⟨Unit,fun _=> [tM 1 (.ptr 1 0),tM 5 (iI e),tM 7 (.ptr 1540 0),tM 47 (lF 3 (List.map enc_api_Tuple p0.Tuples)),tM 48 (iI (p0.Tuples.length:Int)),tM 49 (iI b),tM 134 (.sb (((((((((!(ref09_Value a.V))||(decide (a.G<(1:Int))))||(decide (a.G>p0.N)))||(decide (a.D<(0:Int))))||(decide (a.D>p0.N)))||(decide ((w64 (a.G+a.D))>d)))||((decide (b>(0:Int)))&&(decide (c.V>a.V))))||((b==(0:Int))&&((a.G !=(1:Int))||(a.D !=(0:Int)))))||((b==(w64 ((p0.Tuples.length:Int)-(1:Int))))&&(a.D !=(0:Int))))),tB 1 (enc_api_Summary p0),tB 1540 [iI a.V,iI a.G,iI a.D]],fun _=>True,fun _=>0⟩,1000000)) (An ?_ (fun _ _=> ?_))
 refine cK (An (cW (c_ref09_Value' a.V _ rfl) (r1 trivial)) (r1 ?_))
 refine An (fun g7=> ?_) (fun g7=> ?_)
 refine An (fun g8=> ?_) (fun g8=> ?_)
 refine An (fun g9=> ?_) (fun g9=> ?_)
 refine An (fun g10=> ?_) (fun g10=> ?_)
 refine An (fun g11=> ?_) (fun g11=> ?_)
 refine cK (An (cW (c_ref20_M p0 d (gdT (nE (oR (oR (oR (oR g7 g8) g9) g10) g11)) f)) (r3 (fr trivial))) (r1 ?_))
 refine An (fun g12=> ?_) (fun g12=> ?_)
 refine An (fun g13=> ?_) (fun g13=> ?_)
 refine eX [iI c.V,iI c.G,iI c.D] (An (idx_map enc_api_Tuple (gdT (aR (nE (oR (oR (oR (oR (oR g7 g8) g9) g10) g11) g12)) g13) g)) ?_)
 refine An (fun g14=> ?_) (fun g14=> ?_)
 refine An (fun g15=> ?_) (fun g15=> ?_)
 refine An (fun g16=> ?_) (fun g16=> ?_)
 refine An (fun g17=> ?_) (fun g17=> ?_)
 refine eX [iI (p0.Tuples.length:Int)] (An (lenS enc_api_Tuple p0.Tuples) ?_)
 refine An (fun g18=> ?_) (fun g18=> ?_)
 exact jU (An trivial (r2 (fr (r2 (An (Eq.symm (oR (oR (oR (oR (oR (oR (oR (oR g7 g8) g9) g10) g11) g12) (aR g13 g14)) (aR g15 (oR g16 g17))) (aR g18 rfl))) (r3 (fr (r3 trivial))))))))
 exact jU (An trivial (r2 (fr (r2 (An (Eq.symm (oR (oR (oR (oR (oR (oR (oR (oR g7 g8) g9) g10) g11) g12) (aR g13 g14)) (aR g15 (oR g16 g17))) (aL g18))) (r3 (fr (r3 trivial))))))))
 exact jU (An trivial (r2 (fr (r2 (An (Eq.symm (oL (oR (oR (oR (oR (oR (oR (oR g7 g8) g9) g10) g11) g12) (aR g13 g14)) (aR g15 (oR g16 g17))))) (r3 (fr (r3 trivial))))))))
 exact jU (An trivial (r2 (fr (r2 (An (Eq.symm (oL (oR (oR (oR (oR (oR (oR (oR g7 g8) g9) g10) g11) g12) (aR g13 g14)) (aR g15 (oL g16))))) (r3 (fr (r3 trivial))))))))
 refine eX [iI (p0.Tuples.length:Int)] (An (lenS enc_api_Tuple p0.Tuples) ?_)
 refine An (fun g19=> ?_) (fun g19=> ?_)
 exact jU (An trivial (r2 (fr (r2 (An (Eq.symm (oR (oR (oR (oR (oR (oR (oR (oR g7 g8) g9) g10) g11) g12) (aR g13 g14)) (aL g15)) (aR g19 rfl))) (r3 (fr (r3 trivial))))))))
 exact jU (An trivial (r2 (fr (r2 (An (Eq.symm (oR (oR (oR (oR (oR (oR (oR (oR g7 g8) g9) g10) g11) g12) (aR g13 g14)) (aL g15)) (aL g19))) (r3 (fr (r3 trivial))))))))
 exact jU (An trivial (r2 (fr (r2 (An (Eq.symm (oL (oL (oR (oR (oR (oR (oR (oR g7 g8) g9) g10) g11) g12) (aR g13 g14))))) (r3 (fr (r3 trivial))))))))
 refine An (fun g20=> ?_) (fun g20=> ?_)
 refine An (fun g21=> ?_) (fun g21=> ?_)
 refine An (fun g22=> ?_) (fun g22=> ?_)
 refine eX [iI (p0.Tuples.length:Int)] (An (lenS enc_api_Tuple p0.Tuples) ?_)
 refine An (fun g23=> ?_) (fun g23=> ?_)
 exact jU (An trivial (r2 (fr (r2 (An (Eq.symm (oR (oR (oR (oR (oR (oR (oR (oR g7 g8) g9) g10) g11) g12) (aL g13)) (aR g20 (oR g21 g22))) (aR g23 rfl))) (r3 (fr (r3 trivial))))))))
 exact jU (An trivial (r2 (fr (r2 (An (Eq.symm (oR (oR (oR (oR (oR (oR (oR (oR g7 g8) g9) g10) g11) g12) (aL g13)) (aR g20 (oR g21 g22))) (aL g23))) (r3 (fr (r3 trivial))))))))
 exact jU (An trivial (r2 (fr (r2 (An (Eq.symm (oL (oR (oR (oR (oR (oR (oR (oR g7 g8) g9) g10) g11) g12) (aL g13)) (aR g20 (oR g21 g22))))) (r3 (fr (r3 trivial))))))))
 exact jU (An trivial (r2 (fr (r2 (An (Eq.symm (oL (oR (oR (oR (oR (oR (oR (oR g7 g8) g9) g10) g11) g12) (aL g13)) (aR g20 (oL g21))))) (r3 (fr (r3 trivial))))))))
 refine eX [iI (p0.Tuples.length:Int)] (An (lenS enc_api_Tuple p0.Tuples) ?_)
 refine An (fun g24=> ?_) (fun g24=> ?_)
 exact jU (An trivial (r2 (fr (r2 (An (Eq.symm (oR (oR (oR (oR (oR (oR (oR (oR g7 g8) g9) g10) g11) g12) (aL g13)) (aL g20)) (aR g24 rfl))) (r3 (fr (r3 trivial))))))))
 exact jU (An trivial (r2 (fr (r2 (An (Eq.symm (oR (oR (oR (oR (oR (oR (oR (oR g7 g8) g9) g10) g11) g12) (aL g13)) (aL g20)) (aL g24))) (r3 (fr (r3 trivial))))))))
 exact jU (An trivial (r2 (fr (r2 (An (Eq.symm (oL (oL (oL (oR (oR (oR (oR (oR g7 g8) g9) g10) g11) g12))))) (r3 (fr (r3 trivial))))))))
 exact jU (An trivial (r2 (fr (r2 (An (Eq.symm (oL (oL (oL (oL (oR (oR (oR (oR g7 g8) g9) g10) g11)))))) (r3 (fr (r3 trivial))))))))
 exact jU (An trivial (r2 (fr (r2 (An (Eq.symm (oL (oL (oL (oL (oL (oR (oR (oR g7 g8) g9) g10))))))) (r3 (fr (r3 trivial))))))))
 exact jU (An trivial (r2 (fr (r2 (An (Eq.symm (oL (oL (oL (oL (oL (oL (oR (oR g7 g8) g9)))))))) (r3 (fr (r3 trivial))))))))
 exact jU (An trivial (r2 (fr (r2 (An (Eq.symm (oL (oL (oL (oL (oL (oL (oL (oR g7 g8))))))))) (r3 (fr (r3 trivial))))))))
 exact jU (An trivial (r2 (fr (r2 (An (Eq.symm (oL (oL (oL (oL (oL (oL (oL (oL g7))))))))) (r3 (fr (r3 trivial))))))))
 refine cD h (fun g25 h=> ?_) (fun g25 h=> ?_)
 cases retS h hr1
 exact eN (r1 trivial)
 refine eN (eN (cD h (fun g26 h=> ?_) (fun g26 h=> ?_)))
 cases retS h hr1
 exact eN (r1 trivial)
 exact eN (jT (_,m1) (An (hl1 _ (oJ h).symm) (An (jL m1) (r2 (fr (r5 (fr trivial)))))))
 replace h:=popS h hr1
 refine eN (cD h (fun g27 h=> ?_) (fun g27 h=> ?_))
 first|cases h|rw [←oJ h]
 exact eN (r1 trivial)
 first|cases h|rw [←oJ h]
 exact eN (r1 trivial)
 replace h:=cT (oL (oR (oR (oR g1 g2) g3) g4)) h
 first|cases h|rw [←oJ h]
 exact eN (r1 trivial)
 replace h:=cT (oL (oL (oR (oR g1 g2) g3))) h
 first|cases h|rw [←oJ h]
 exact eN (r1 trivial)
 replace h:=cT (oL (oL (oL (oR g1 g2)))) h
 first|cases h|rw [←oJ h]
 exact eN (r1 trivial)
 replace h:=cT (oL (oL (oL (oL g1)))) h
 first|cases h|rw [←oJ h]
 exact eN (r1 trivial)
theorem c_ref01_Bits (p0:Int) (r:Int) (h:ref01_Bits p0=some r):Contract Tryz.prog 309 [iI p0] [] (iI r) []:=by
 refine C0 Tryz.func309 Tryz.call309 1 ?_
 delta ref01_Bits at h
 refine eN (eN ?_)
 replace h:ref01_Bits_l2 p0 (0:Int)=some r:=h
 delta ref01_Bits_l2 at h
 obtain ⟨n1,h⟩:=loopS h
 refine eX (Sum.inl ⟨(Int×Int)×Nat,fun q=> [tM 0 (iI q.1.1),tM 3 (iI q.1.2)],fun q=>loopN (fun (s:(Int×Int))=>ref01_Bits_l2s s.1 s.2) q.2 q.1=some r,fun q=>q.2⟩) (An (eX [] (eX [] (eX ((p0,(0:Int)),n1) (An h (r3 trivial))))) ?_)
 clear h
 refine fun q h=> ?_
 obtain ⟨⟨a,b⟩,n1⟩:=q
 obtain ⟨m1,x1,hm1,h,hl1,hr1⟩:=loopN_step h
 replace hm1:n1=m1+1:=hm1
 subst hm1
 replace h:ref01_Bits_l2s a b=some x1:=h
 delta ref01_Bits_l2s at h
 refine eN (cD h (fun g1 h=> ?_) (fun g1 h=> ?_))
 refine eN (eN (An (by decide) ?_))
 exact jT (_,m1) (An (hl1 _ (oJ h).symm) (An (jL m1) (r3 trivial)))
 replace h:=popS h hr1
 first|cases h|rw [←oJ h]
 exact eN (r1 trivial)
theorem c_ref23_Size (p0:Int) (p1:Int) (r:Int) (h:ref23_Size p0 p1=some r):Contract Tryz.prog 228 [iI p0,iI p1] [] (iI r) []:=by
 refine C0 Tryz.func228 Tryz.call228 1 ?_
 delta ref23_Size at h
 refine eN (eN (eN (cK (An (cW (c_ref11_MayK' p0 _ rfl) (r1 trivial)) (r1 ?_)))))
 refine An (fun g1=> ?_) (fun g1=> ?_)
 refine An (fun g2=> ?_) (fun g2=> ?_)
 refine An (fun g3=> ?_) (fun g3=> ?_)
 replace h:=cT (oR (oR g1 g2) g3) h
 first|cases h|rw [←oJ h]
 exact eN (r1 trivial)
 replace h:=cF (oR (oR g1 g2) g3) h
 refine eN ?_
 obtain ⟨a,b,h⟩:=bS h
 refine cK (An (cW (c_ref01_Bits p1 a b) (r1 trivial)) (r1 ?_))
 first|cases h|rw [←oJ h]
 exact (r1 trivial)
 replace h:=cT (oL (oR g1 g2)) h
 first|cases h|rw [←oJ h]
 exact eN (r1 trivial)
 replace h:=cT (oL (oL g1)) h
 first|cases h|rw [←oJ h]
 exact eN (r1 trivial)
theorem c_ref22_Plain (p0:(List api_Block)) (r:(List api_Bucket)) (h:ref22_Plain p0=some r):Contract Tryz.prog 305 [lF 5 (List.map enc_api_Block p0)] [] (lF 2 (List.map enc_api_Bucket r)) []:=by
 refine C0 Tryz.func305 Tryz.call305 1 ?_
 delta ref22_Plain at h
 refine eN (eN (eN (eX [iI (p0.length:Int)] (An (lenS enc_api_Block p0) ?_))))
 replace h:ref22_Plain_l2 p0 ([]:List api_Bucket) (0:Int)=some r:=h
 delta ref22_Plain_l2 at h
 obtain ⟨n1,h⟩:=loopS h
 refine eX (Sum.inl ⟨((List api_Bucket)×Int)×Nat,fun q=> [tM 3 (.own 768),tM 6 (lF 5 (List.map enc_api_Block p0)),tM 7 (iI (p0.length:Int)),tM 8 (iI q.1.2),(.tok 768, .tok 271 2 (List.map enc_api_Bucket q.1.1))],fun q=>loopN (fun (s:((List api_Bucket)×Int))=>ref22_Plain_l2s p0 s.1 s.2) q.2 q.1=some r,fun q=>q.2⟩) (An (eX [(768,none)] (eX [] (eX ((([]:List api_Bucket),(0:Int)),n1) (An h (r1 (fr (r3 trivial))))))) ?_)
 clear h
 refine fun q h=> ?_
 obtain ⟨⟨b,c⟩,n1⟩:=q
 obtain ⟨m1,x1,hm1,h,hl1,hr1⟩:=loopN_step h
 replace hm1:n1=m1+1:=hm1
 subst hm1
 replace h:ref22_Plain_l2s p0 b c=some x1:=h
 delta ref22_Plain_l2s at h
 refine eN (cD h (fun g1 h=> ?_) (fun g1 h=> ?_))
 refine eN ?_
 obtain ⟨a,d,h⟩:=bS h
 refine eX (enc_api_Block a) (An (idx_map enc_api_Block d) ?_)
 refine eN ?_
 obtain ⟨e,h⟩:=ckS h
 refine An (kA (oD e)) ?_
 exact eN (eX [(768,some 1288)] (eX [] (eX (((b++ [(api_Bucket.mk a.T a.Level)]),(w64 (c+(1:Int)))),m1) (An (hl1 ((b++ [(api_Bucket.mk a.T a.Level)]),(w64 (c+(1:Int)))) (oJ h).symm) (An (Nat.lt_succ_self m1) (r1 (fr (r2 (An lE trivial)))))))))
 replace h:=popS h hr1
 first|cases h|rw [←oJ h]
 exact eN (fr trivial)
theorem c_ref21_Validate (p0:api_Ranks) (r:Int) (h:ref21_Validate p0=some r):Contract Tryz.prog 317 [.agg [iI p0.N,lF 3 (List.map enc_api_Entry p0.Entries)]] [] (iI r) []:=by
 refine C0 Tryz.func317 Tryz.call317 1 ?_
 delta ref21_Validate at h
 refine eN (eN (eN (An (fun g1=> ?_) (fun g1=> ?_))))
 refine An (fun g2=> ?_) (fun g2=> ?_)
 refine eX [iI (p0.Entries.length:Int)] (An (lenS enc_api_Entry p0.Entries) ?_)
 refine An (fun g3=> ?_) (fun g3=> ?_)
 replace h:=cT (oR (oR g1 g2) g3) h
 first|cases h|rw [←oJ h]
 exact eN (r1 trivial)
 replace h:=cF (oR (oR g1 g2) g3) h
 refine eN (eX [iI (p0.Entries.length:Int)] (An (lenS enc_api_Entry p0.Entries) ?_))
 replace h:ref21_Validate_l3 p0 (0:Int)=some r:=h
 delta ref21_Validate_l3 at h
 obtain ⟨n1,h⟩:=loopS h
 refine eX (Sum.inl ⟨Int×Nat,fun q=> [tM 1 (.ptr 1 0),tM 25 (lF 3 (List.map enc_api_Entry p0.Entries)),tM 26 (iI (p0.Entries.length:Int)),tM 27 (iI q.1),tB 1 [iI p0.N,lF 3 (List.map enc_api_Entry p0.Entries)]],fun q=>loopN (fun (s:Int)=>ref21_Validate_l3s p0 s) q.2 q.1=some r,fun q=>q.2⟩) (An (eX [] (eX [] (eX ((0:Int),n1) (An h (r1 (fr (r3 (fr trivial)))))))) ?_)
 clear h
 refine fun q h=> ?_
 obtain ⟨b,n1⟩:=q
 obtain ⟨m1,x1,hm1,h,hl1,hr1⟩:=loopN_step h
 replace hm1:n1=m1+1:=hm1
 subst hm1
 replace h:ref21_Validate_l3s p0 b=some x1:=h
 delta ref21_Validate_l3s at h
 refine eN (cD h (fun g4 h=> ?_) (fun g4 h=> ?_))
 refine eN (eN ?_)
 obtain ⟨a,d,h⟩:=bS h
 refine eX [iI a.V,iI a.Min,iI a.Max] (An (idx_map enc_api_Entry d) ?_)
 refine eN (eX (some (⟨Unit,fun _=> [tM 1 (.ptr 1 0),tM 3 (iI b),tM 4 (.ptr 1028 0),tM 25 (lF 3 (List.map enc_api_Entry p0.Entries)),tM 26 (iI (p0.Entries.length:Int)),tM 27 (iI b),tM 72 (.sb (((((decide (a.Min<(1:Int)))||(decide (a.Min>a.Max)))||(decide (a.Max>p0.N)))||((b==(0:Int))&&(a.Max !=(1:Int))))||((b==(w64 ((p0.Entries.length:Int)-(1:Int))))&&(a.Min !=p0.N)))),tB 1 [iI p0.N,lF 3 (List.map enc_api_Entry p0.Entries)],tB 1028 [iI a.V,iI a.Min,iI a.Max]],fun _=>True,fun _=>0⟩,1000000)) (An ?_ (fun _ _=> ?_)))
 refine An (fun g5=> ?_) (fun g5=> ?_)
 refine An (fun g6=> ?_) (fun g6=> ?_)
 refine An (fun g7=> ?_) (fun g7=> ?_)
 refine An (fun g8=> ?_) (fun g8=> ?_)
 refine An (fun g9=> ?_) (fun g9=> ?_)
 refine eX [iI (p0.Entries.length:Int)] (An (lenS enc_api_Entry p0.Entries) ?_)
 refine An (fun g10=> ?_) (fun g10=> ?_)
 exact jU (An trivial (r2 (fr (r2 (An (Eq.symm (oR (oR (oR (oR g5 g6) g7) (aR g8 g9)) (aR g10 rfl))) (r1 (fr (r3 trivial))))))))
 exact jU (An trivial (r2 (fr (r2 (An (Eq.symm (oR (oR (oR (oR g5 g6) g7) (aR g8 g9)) (aL g10))) (r1 (fr (r3 trivial))))))))
 exact jU (An trivial (r2 (fr (r2 (An (Eq.symm (oL (oR (oR (oR g5 g6) g7) (aR g8 g9)))) (r1 (fr (r3 trivial))))))))
 refine eX [iI (p0.Entries.length:Int)] (An (lenS enc_api_Entry p0.Entries) ?_)
 refine An (fun g11=> ?_) (fun g11=> ?_)
 exact jU (An trivial (r2 (fr (r2 (An (Eq.symm (oR (oR (oR (oR g5 g6) g7) (aL g8)) (aR g11 rfl))) (r1 (fr (r3 trivial))))))))
 exact jU (An trivial (r2 (fr (r2 (An (Eq.symm (oR (oR (oR (oR g5 g6) g7) (aL g8)) (aL g11))) (r1 (fr (r3 trivial))))))))
 exact jU (An trivial (r2 (fr (r2 (An (Eq.symm (oL (oL (oR (oR g5 g6) g7)))) (r1 (fr (r3 trivial))))))))
 exact jU (An trivial (r2 (fr (r2 (An (Eq.symm (oL (oL (oL (oR g5 g6))))) (r1 (fr (r3 trivial))))))))
 exact jU (An trivial (r2 (fr (r2 (An (Eq.symm (oL (oL (oL (oL g5))))) (r1 (fr (r3 trivial))))))))
 refine cD h (fun g12 h=> ?_) (fun g12 h=> ?_)
 cases retS h hr1
 exact eN (r1 trivial)
 refine eN (eN (cD h (fun g13 h=> ?_) (fun g13 h=> ?_)))
 refine eN ?_
 obtain ⟨c,e,h⟩:=bS h
 refine eX [iI c.V,iI c.Min,iI c.Max] (An (idx_map enc_api_Entry e) ?_)
 refine eN (eN (An (fun g14=> ?_) (fun g14=> ?_)))
 refine An (fun g15=> ?_) (fun g15=> ?_)
 refine An (fun g16=> ?_) (fun g16=> ?_)
 replace h:=cT (oR (oR g14 g15) g16) h
 cases retS h hr1
 exact eN (r1 trivial)
 replace h:=cF (oR (oR g14 g15) g16) h
 exact eN (jT (_,m1) (An (hl1 _ (oJ h).symm) (An (jL m1) (r1 (fr (r3 (fr trivial)))))))
 replace h:=cT (oL (oR g14 g15)) h
 cases retS h hr1
 exact eN (r1 trivial)
 replace h:=cT (oL (oL g14)) h
 cases retS h hr1
 exact eN (r1 trivial)
 exact eN (jT (_,m1) (An (hl1 _ (oJ h).symm) (An (jL m1) (r1 (fr (r3 (fr trivial)))))))
 replace h:=popS h hr1
 first|cases h|rw [←oJ h]
 exact eN (r1 trivial)
 replace h:=cT (oL (oR g1 g2)) h
 first|cases h|rw [←oJ h]
 exact eN (r1 trivial)
 replace h:=cT (oL (oL g1)) h
 first|cases h|rw [←oJ h]
 exact eN (r1 trivial)
theorem c_ref21_Gap (p0:api_Ranks) (r:Int) (h:ref21_Gap p0=some r):Contract Tryz.prog 318 [.agg [iI p0.N,lF 3 (List.map enc_api_Entry p0.Entries)]] [] (iI r) []:=by
 refine C0 Tryz.func318 Tryz.call318 1 ?_
 delta ref21_Gap at h
 refine eN (eN ?_)
 obtain ⟨d,e,h⟩:=bS h
 refine eN (cK (An (cW (c_ref21_Validate p0 d e) (r1 (fr trivial))) (r1 ?_)))
 refine An (fun g1=> ?_) (fun g1=> ?_)
 refine An (fun g2=> ?_) (fun g2=> ?_)
 replace h:=cT (oR g1 g2) h
 first|cases h|rw [←oJ h]
 exact eN (r1 trivial)
 replace h:=cF (oR g1 g2) h
 refine eN (eN ?_)
 replace h:ref21_Gap_l3 p0 (1:Int) (1:Int)=some r:=h
 delta ref21_Gap_l3 at h
 obtain ⟨n1,h⟩:=loopS h
 refine eX (Sum.inl ⟨(Int×Int)×Nat,fun q=> [tM 1 (.ptr 1 0),tM 3 (iI q.1.1),tM 4 (iI q.1.2),tB 1 [iI p0.N,lF 3 (List.map enc_api_Entry p0.Entries)]],fun q=>loopN (fun (s:(Int×Int))=>ref21_Gap_l3s p0 s.1 s.2) q.2 q.1=some r,fun q=>q.2⟩) (An (eX [] (eX [] (eX (((1:Int),(1:Int)),n1) (An h (r4 (fr trivial)))))) ?_)
 clear h
 refine fun q h=> ?_
 obtain ⟨⟨f,g⟩,n1⟩:=q
 obtain ⟨m1,x1,hm1,h,hl1,hr1⟩:=loopN_step h
 replace hm1:n1=m1+1:=hm1
 subst hm1
 replace h:ref21_Gap_l3s p0 f g=some x1:=h
 delta ref21_Gap_l3s at h
 refine eN (eX [iI (p0.Entries.length:Int)] (An (lenS enc_api_Entry p0.Entries) ?_))
 refine cD h (fun g3 h=> ?_) (fun g3 h=> ?_)
 refine eN ?_
 obtain ⟨b,i,h⟩:=bS h
 obtain ⟨a,c,h⟩:=bS h
 refine eX [iI b.V,iI b.Min,iI b.Max] (An (idx_map enc_api_Entry i) ?_)
 refine eX [iI a.V,iI a.Min,iI a.Max] (An (idx_map enc_api_Entry c) ?_)
 exact eN (jT (_,m1) (An (hl1 _ (oJ h).symm) (An (jL m1) (r4 (fr trivial)))))
 replace h:=popS h hr1
 first|cases h|rw [←oJ h]
 exact eN (r1 trivial)
 replace h:=cT (oL g1) h
 first|cases h|rw [←oJ h]
 exact eN (r1 trivial)
theorem c_ref22_Allowed (p0:Int) (p1:Int) (r:Int) (h:ref22_Allowed p0 p1=some r):Contract Tryz.prog 319 [iI p0,iI p1] [] (iI r) []:=by
 refine C0 Tryz.func319 Tryz.call319 1 ?_
 delta ref22_Allowed at h
 refine eN (eN (eN (An (fun g1=> ?_) (fun g1=> ?_))))
 refine An (fun g2=> ?_) (fun g2=> ?_)
 refine An (fun g3=> ?_) (fun g3=> ?_)
 refine An (fun g4=> ?_) (fun g4=> ?_)
 replace h:=cT (oR (oR (oR g1 g2) g3) g4) h
 first|cases h|rw [←oJ h]
 exact eN (r1 trivial)
 replace h:=cF (oR (oR (oR g1 g2) g3) g4) h
 refine eN (eN ?_)
 replace h:ref22_Allowed_l3 p0 p1 (0:Int) (0:Int)=some r:=h
 delta ref22_Allowed_l3 at h
 obtain ⟨n1,h⟩:=loopS h
 refine eX (Sum.inl ⟨(Int×Int)×Nat,fun q=> [tM 0 (iI p0),tM 1 (iI p1),tM 5 (iI q.1.1),tM 6 (iI q.1.2)],fun q=>loopN (fun (s:(Int×Int))=>ref22_Allowed_l3s p0 p1 s.1 s.2) q.2 q.1=some r,fun q=>q.2⟩) (An (eX [] (eX [] (eX (((0:Int),(0:Int)),n1) (An h (r5 trivial))))) ?_)
 clear h
 refine fun q h=> ?_
 obtain ⟨⟨a,b⟩,n1⟩:=q
 obtain ⟨m1,x1,hm1,h,hl1,hr1⟩:=loopN_step h
 replace hm1:n1=m1+1:=hm1
 subst hm1
 replace h:ref22_Allowed_l3s p0 p1 a b=some x1:=h
 delta ref22_Allowed_l3s at h
 refine eN (cD h (fun g5 h=> ?_) (fun g5 h=> ?_))
 refine eN (eN ?_)
 obtain ⟨c,h⟩:=ckS h
 refine An (oD c) ?_
 refine eN (eN (cD h (fun g6 h=> ?_) (fun g6 h=> ?_)))
 refine eN ?_
 obtain ⟨d,h⟩:=ckS h
 refine An (oD d) ?_
 exact eN (jT (_,m1) (An (hl1 _ (oJ h).symm) (An (jL m1) (r5 trivial))))
 exact eN (jT (_,m1) (An (hl1 _ (oJ h).symm) (An (jL m1) (r5 trivial))))
 replace h:=popS h hr1
 first|cases h|rw [←oJ h]
 exact eN (r1 trivial)
 replace h:=cT (oL (oR (oR g1 g2) g3)) h
 first|cases h|rw [←oJ h]
 exact eN (r1 trivial)
 replace h:=cT (oL (oL (oR g1 g2))) h
 first|cases h|rw [←oJ h]
 exact eN (r1 trivial)
 replace h:=cT (oL (oL (oL g1))) h
 first|cases h|rw [←oJ h]
 exact eN (r1 trivial)
theorem c_ref22_Valid (p0:(List api_Block)) (p1:Int) (p2:Int) (r:Bool) (h:ref22_Valid p0 p1 p2=some r):Contract Tryz.prog 261 [lF 5 (List.map enc_api_Block p0),iI p1,iI p2] [] (.sb r) []:=by
 refine C0 Tryz.func261 Tryz.call261 1 ?_
 delta ref22_Valid at h
 refine eN (eN ?_)
 obtain ⟨d,o,h⟩:=bS h
 obtain ⟨j,k,h⟩:=bS h
 refine eN (An (fun g1=> ?_) (fun g1=> ?_))
 refine An (fun g2=> ?_) (fun g2=> ?_)
 refine cK (An (cW (c_ref22_Plain p0 d (gdT (nE (oR g1 g2)) o)) (fr trivial)) (r1 ?_))
 refine cK (An (cW (c_ref10_Valid d p1 j (gdT (nE (oR g1 g2)) k)) (fr (r1 trivial))) (r1 ?_))
 refine An (fun g3=> ?_) (fun g3=> ?_)
 replace h:=cT (oR (oR g1 g2) g3) h
 first|cases h|rw [←oJ h]
 exact eN (r1 trivial)
 replace h:=cF (oR (oR g1 g2) g3) h
 refine eN (eX [iI (p0.length:Int)] (An (lenS enc_api_Block p0) ?_))
 replace h:ref22_Valid_l3 p0 p2 (0:Int)=some r:=h
 delta ref22_Valid_l3 at h
 obtain ⟨n1,h⟩:=loopS h
 refine eX (Sum.inl ⟨Int×Nat,fun q=> [tM 2 (iI p2),tM 25 (lF 5 (List.map enc_api_Block p0)),tM 26 (iI (p0.length:Int)),tM 27 (iI q.1)],fun q=>loopN (fun (s:Int)=>ref22_Valid_l3s p0 p2 s) q.2 q.1=some r,fun q=>q.2⟩) (An (eX [] (eX [] (eX ((0:Int),n1) (An h (r2 (fr (r2 trivial))))))) ?_)
 clear h
 refine fun q h=> ?_
 obtain ⟨l,n1⟩:=q
 obtain ⟨m1,x1,hm1,h,hl1,hr1⟩:=loopN_step h
 replace hm1:n1=m1+1:=hm1
 subst hm1
 replace h:ref22_Valid_l3s p0 p2 l=some x1:=h
 delta ref22_Valid_l3s at h
 refine eN (cD h (fun g4 h=> ?_) (fun g4 h=> ?_))
 refine eN ?_
 obtain ⟨a,p,h⟩:=bS h
 refine eX (enc_api_Block a) (An (idx_map enc_api_Block p) ?_)
 refine eN (eX [iI (a.Ranks.Entries.length:Int)] (An (lenS enc_api_Entry a.Ranks.Entries) ?_))
 refine eN ?_
 obtain ⟨t,u,h⟩:=bS h
 obtain ⟨m,h⟩:=ckS h
 refine eN (cK (An (cW (c_ref21_Validate a.Ranks t u) (r1 (fr trivial))) (r1 ?_)))
 refine An (fun g5=> ?_) (fun g5=> ?_)
 refine An (oD (gT (nE g5) m)) ?_
 refine An (fun g6=> ?_) (fun g6=> ?_)
 refine An (fun g7=> ?_) (fun g7=> ?_)
 replace h:=cT (oR (oR g5 g6) g7) h
 cases retS h hr1
 exact eN (r1 trivial)
 replace h:=cF (oR (oR g5 g6) g7) h
 refine eN ?_
 obtain ⟨c,v,h⟩:=bS h
 obtain ⟨b,n,h⟩:=bS h
 refine eX [iI c.V,iI c.Min,iI c.Max] (An (idx_map enc_api_Entry v) ?_)
 refine eX [iI b.V,iI b.Min,iI b.Max] (An (idx_map enc_api_Entry n) ?_)
 refine eN ?_
 obtain ⟨e,f,h⟩:=bS h
 obtain ⟨g,i,h⟩:=bS h
 refine eN (cK (An (cW (c_ref09_Value' c.V _ rfl) (r1 trivial)) (r1 ?_)))
 refine An (fun g8=> ?_) (fun g8=> ?_)
 refine cK (An (cW (c_ref09_Value' b.V _ rfl) (r1 trivial)) (r1 ?_))
 refine An (fun g9=> ?_) (fun g9=> ?_)
 refine An (fun g10=> ?_) (fun g10=> ?_)
 refine An (fun g11=> ?_) (fun g11=> ?_)
 refine cK (An (cW (c_ref21_Gap a.Ranks e (gdT (nE (oR (oR (oR g8 g9) g10) g11)) f)) (r1 (fr trivial))) (r1 ?_))
 refine cK (An (cW (c_ref22_Allowed a.Level p2 g (gdT (nE (oR (oR (oR g8 g9) g10) g11)) i)) (r2 trivial)) (r1 ?_))
 refine An (fun g12=> ?_) (fun g12=> ?_)
 replace h:=cT (oR (oR (oR (oR g8 g9) g10) g11) g12) h
 cases retS h hr1
 exact eN (r1 trivial)
 replace h:=cF (oR (oR (oR (oR g8 g9) g10) g11) g12) h
 exact eN (jT (_,m1) (An (hl1 _ (oJ h).symm) (An (jL m1) (r2 (fr (r2 trivial))))))
 replace h:=cT (oL (oR (oR (oR g8 g9) g10) g11)) h
 cases retS h hr1
 exact eN (r1 trivial)
 replace h:=cT (oL (oL (oR (oR g8 g9) g10))) h
 cases retS h hr1
 exact eN (r1 trivial)
 replace h:=cT (oL (oL (oL (oR g8 g9)))) h
 cases retS h hr1
 exact eN (r1 trivial)
 replace h:=cT (oL (oL (oL (oL g8)))) h
 cases retS h hr1
 exact eN (r1 trivial)
 replace h:=cT (oL (oR g5 g6)) h
 cases retS h hr1
 exact eN (r1 trivial)
 replace h:=cT (oL (oL g5)) h
 cases retS h hr1
 exact eN (r1 trivial)
 replace h:=popS h hr1
 first|cases h|rw [←oJ h]
 exact eN (r1 trivial)
 replace h:=cT (oL (oR g1 g2)) h
 first|cases h|rw [←oJ h]
 exact eN (r1 trivial)
 replace h:=cT (oL (oL g1)) h
 first|cases h|rw [←oJ h]
 exact eN (r1 trivial)
theorem c_ref22_Total (p0:(List api_Block)) (r:Int) (h:ref22_Total p0=some r):Contract Tryz.prog 226 [lF 5 (List.map enc_api_Block p0)] [] (iI r) []:=by
 refine C0 Tryz.func226 Tryz.call226 1 ?_
 delta ref22_Total at h
 refine eN (eN ?_)
 obtain ⟨a,b,h⟩:=bS h
 obtain ⟨c,d,h⟩:=bS h
 refine cK (An (cW (c_ref22_Plain p0 a b) (fr trivial)) (r1 ?_))
 refine cK (An (cW (c_ref10_Total a c d) (fr trivial)) (r1 ?_))
 first|cases h|rw [←oJ h]
 exact (r1 trivial)
theorem c_ref23_Validate (p0:api_Quantile) (r:Int) (h:ref23_Validate p0=some r):Contract Tryz.prog 158 [.agg (enc_api_Quantile p0)] [] (iI r) []:=by
 refine C0 Tryz.func158 Tryz.call158 1 ?_
 delta ref23_Validate at h
 refine eN (eN ?_)
 obtain ⟨a,c,h⟩:=bS h
 obtain ⟨d,e,h⟩:=bS h
 obtain ⟨f,g,h⟩:=bS h
 refine eN (cK (An (cW (c_ref09_May' p0.W p0.Cap p0.Now _ rfl) (r3 trivial)) (r1 ?_)))
 refine An (fun g1=> ?_) (fun g1=> ?_)
 refine cK (An (cW (c_ref11_MayK' p0.K _ rfl) (r1 trivial)) (r1 ?_))
 refine An (fun g2=> ?_) (fun g2=> ?_)
 refine cK (An (cW (c_ref23_Size p0.K p0.Cap a (gdT (nE (oR g1 g2)) c)) (r2 trivial)) (r1 ?_))
 refine cK (An (cW (c_ref22_Valid p0.Blocks (w64 ((2:Int)*p0.K)) a d (gdT (nE (oR g1 g2)) e)) (fr (r2 trivial))) (r1 ?_))
 refine An (fun g3=> ?_) (fun g3=> ?_)
 refine cK (An (cW (c_ref22_Total p0.Blocks f (gdT (nE (oR (oR g1 g2) g3)) g)) (fr trivial)) (r1 ?_))
 refine An (fun g4=> ?_) (fun g4=> ?_)
 replace h:=cT (oR (oR (oR g1 g2) g3) g4) h
 first|cases h|rw [←oJ h]
 exact eN (r1 trivial)
 replace h:=cF (oR (oR (oR g1 g2) g3) g4) h
 refine eN (eX [iI (p0.Blocks.length:Int)] (An (lenS enc_api_Block p0.Blocks) ?_))
 replace h:ref23_Validate_l3 p0 (0:Int)=some r:=h
 delta ref23_Validate_l3 at h
 obtain ⟨n1,h⟩:=loopS h
 refine eX (Sum.inl ⟨Int×Nat,fun q=> [tM 1 (.ptr 1 0),tM 42 (lF 5 (List.map enc_api_Block p0.Blocks)),tM 43 (iI (p0.Blocks.length:Int)),tM 44 (iI q.1),tB 1 (enc_api_Quantile p0)],fun q=>loopN (fun (s:Int)=>ref23_Validate_l3s p0 s) q.2 q.1=some r,fun q=>q.2⟩) (An (eX [] (eX [] (eX ((0:Int),n1) (An h (r1 (fr (r6 (fr trivial)))))))) ?_)
 clear h
 refine fun q h=> ?_
 obtain ⟨i,n1⟩:=q
 obtain ⟨m1,x1,hm1,h,hl1,hr1⟩:=loopN_step h
 replace hm1:n1=m1+1:=hm1
 subst hm1
 replace h:ref23_Validate_l3s p0 i=some x1:=h
 delta ref23_Validate_l3s at h
 refine eN (cD h (fun g5 h=> ?_) (fun g5 h=> ?_))
 refine eN ?_
 obtain ⟨b,j,h⟩:=bS h
 refine eX (enc_api_Block b) (An (idx_map enc_api_Block j) ?_)
 refine eN (cK (An (cW (c_ref06_Live' p0.Now p0.W b.T _ rfl) (r3 trivial)) (r1 ?_)))
 refine cD h (fun g6 h=> ?_) (fun g6 h=> ?_)
 cases retS h hr1
 exact eN (r1 trivial)
 exact eN (jT (_,m1) (An (hl1 _ (oJ h).symm) (An (jL m1) (r1 (fr (r6 (fr trivial)))))))
 replace h:=popS h hr1
 first|cases h|rw [←oJ h]
 exact eN (r1 trivial)
 replace h:=cT (oL (oR (oR g1 g2) g3)) h
 first|cases h|rw [←oJ h]
 exact eN (r1 trivial)
 replace h:=cT (oL (oL (oR g1 g2))) h
 first|cases h|rw [←oJ h]
 exact eN (r1 trivial)
 replace h:=cT (oL (oL (oL g1))) h
 first|cases h|rw [←oJ h]
 exact eN (r1 trivial)
theorem c_ref25_made (p0:api_Synopsis) (r:Bool) (h:ref25_made p0=some r):Contract Tryz.prog 143 [.agg (enc_api_Synopsis p0)] [] (.sb r) []:=by
 refine C0 Tryz.func143 Tryz.call143 1 ?_
 delta ref25_made at h
 refine eN (eN (eN (eN (cD h (fun g1 h=> ?_) (fun g1 h=> ?_)))))
 refine eN ?_
 obtain ⟨w,x,h⟩:=bS h
 refine eN (cK (An (cW (c_ref09_Validate p0.Recent w x) (r3 (fr trivial))) (r1 ?_)))
 refine An (fun g2=> ?_) (fun g2=> ?_)
 refine An (fun g3=> ?_) (fun g3=> ?_)
 first|cases h|rw [←oJ h]
 exact (An (Eq.symm (aR (aR g2 g3) rfl)) trivial)
 first|cases h|rw [←oJ h]
 exact (An (Eq.symm (aL (aR g2 g3))) trivial)
 first|cases h|rw [←oJ h]
 exact (An (Eq.symm (aL (aL g2))) trivial)
 refine eN (cD h (fun g4 h=> ?_) (fun g4 h=> ?_))
 refine eN ?_
 obtain ⟨y,z,h⟩:=bS h
 refine eN (cK (An (cW (c_ref11_Validate p0.Count y z) (r4 (fr trivial))) (r1 ?_)))
 refine An (fun g5=> ?_) (fun g5=> ?_)
 refine An (fun g6=> ?_) (fun g6=> ?_)
 refine An (fun g7=> ?_) (fun g7=> ?_)
 first|cases h|rw [←oJ h]
 exact (An (Eq.symm (aR (aR (aR g5 g6) g7) rfl)) trivial)
 first|cases h|rw [←oJ h]
 exact (An (Eq.symm (aL (aR (aR g5 g6) g7))) trivial)
 first|cases h|rw [←oJ h]
 exact (An (Eq.symm (aL (aL (aR g5 g6)))) trivial)
 first|cases h|rw [←oJ h]
 exact (An (Eq.symm (aL (aL (aL g5)))) trivial)
 refine eN (cD h (fun g8 h=> ?_) (fun g8 h=> ?_))
 refine eN ?_
 obtain ⟨A,B,h⟩:=bS h
 refine eN (cK (An (cW (c_ref12_Validate p0.Sum A B) (r5 (fr trivial))) (r1 ?_)))
 refine An (fun g9=> ?_) (fun g9=> ?_)
 refine An (fun g10=> ?_) (fun g10=> ?_)
 refine An (fun g11=> ?_) (fun g11=> ?_)
 refine An (fun g12=> ?_) (fun g12=> ?_)
 first|cases h|rw [←oJ h]
 exact (An (Eq.symm (aR (aR (aR (aR g9 g10) g11) g12) rfl)) trivial)
 first|cases h|rw [←oJ h]
 exact (An (Eq.symm (aL (aR (aR (aR g9 g10) g11) g12))) trivial)
 first|cases h|rw [←oJ h]
 exact (An (Eq.symm (aL (aL (aR (aR g9 g10) g11)))) trivial)
 first|cases h|rw [←oJ h]
 exact (An (Eq.symm (aL (aL (aL (aR g9 g10))))) trivial)
 first|cases h|rw [←oJ h]
 exact (An (Eq.symm (aL (aL (aL (aL g9))))) trivial)
 refine eN (cD h (fun g13 h=> ?_) (fun g13 h=> ?_))
 refine eN ?_
 obtain ⟨e,f,h⟩:=bS h
 refine eN (cK (An (cW (c_ref13_Validate p0.Smooth e f) (r6 (fr trivial))) (r1 ?_)))
 refine An (fun g14=> ?_) (fun g14=> ?_)
 refine An (fun g15=> ?_) (fun g15=> ?_)
 refine An (fun g16=> ?_) (fun g16=> ?_)
 refine An (fun g17=> ?_) (fun g17=> ?_)
 first|cases h|rw [←oJ h]
 exact (An (Eq.symm (aR (aR (aR (aR g14 g15) g16) g17) rfl)) trivial)
 first|cases h|rw [←oJ h]
 exact (An (Eq.symm (aL (aR (aR (aR g14 g15) g16) g17))) trivial)
 first|cases h|rw [←oJ h]
 exact (An (Eq.symm (aL (aL (aR (aR g14 g15) g16)))) trivial)
 first|cases h|rw [←oJ h]
 exact (An (Eq.symm (aL (aL (aL (aR g14 g15))))) trivial)
 first|cases h|rw [←oJ h]
 exact (An (Eq.symm (aL (aL (aL (aL g14))))) trivial)
 refine eN (cD h (fun g18 h=> ?_) (fun g18 h=> ?_))
 refine eN ?_
 obtain ⟨g,i,h⟩:=bS h
 refine eN (cK (An (cW (c_ref14_Validate p0.Spread g i) (r5 (fr trivial))) (r1 ?_)))
 refine An (fun g19=> ?_) (fun g19=> ?_)
 refine An (fun g20=> ?_) (fun g20=> ?_)
 refine An (fun g21=> ?_) (fun g21=> ?_)
 first|cases h|rw [←oJ h]
 exact (An (Eq.symm (aR (aR (aR g19 g20) g21) rfl)) trivial)
 first|cases h|rw [←oJ h]
 exact (An (Eq.symm (aL (aR (aR g19 g20) g21))) trivial)
 first|cases h|rw [←oJ h]
 exact (An (Eq.symm (aL (aL (aR g19 g20)))) trivial)
 first|cases h|rw [←oJ h]
 exact (An (Eq.symm (aL (aL (aL g19)))) trivial)
 refine eN (cD h (fun g22 h=> ?_) (fun g22 h=> ?_))
 refine eN ?_
 obtain ⟨j,k,h⟩:=bS h
 refine eN (cK (An (cW (c_ref15_Validate p0.Poly j k) (r3 (fr trivial))) (r1 ?_)))
 refine An (fun g23=> ?_) (fun g23=> ?_)
 first|cases h|rw [←oJ h]
 exact (An (Eq.symm (aR g23 rfl)) trivial)
 first|cases h|rw [←oJ h]
 exact (An (Eq.symm (aL g23)) trivial)
 refine eN (cD h (fun g24 h=> ?_) (fun g24 h=> ?_))
 refine eN ?_
 obtain ⟨l,m,h⟩:=bS h
 refine eN (cK (An (cW (c_ref16_Validate p0.Halve l m) (r1 (fr trivial))) (r1 ?_)))
 refine An (fun g25=> ?_) (fun g25=> ?_)
 refine eX [iI (p0.Halve.Sums.length:Int)] (An (lenS (eI .i64) p0.Halve.Sums) ?_)
 first|cases h|rw [←oJ h]
 exact (An (Eq.symm (aR g25 rfl)) trivial)
 first|cases h|rw [←oJ h]
 exact (An (Eq.symm (aL g25)) trivial)
 refine eN (cD h (fun g26 h=> ?_) (fun g26 h=> ?_))
 refine eN ?_
 obtain ⟨n,o,h⟩:=bS h
 refine eN (cK (An (cW (c_ref17_Validate p0.Extreme n o) (r4 (fr trivial))) (r1 ?_)))
 refine An (fun g27=> ?_) (fun g27=> ?_)
 refine An (fun g28=> ?_) (fun g28=> ?_)
 refine An (fun g29=> ?_) (fun g29=> ?_)
 first|cases h|rw [←oJ h]
 exact (An (Eq.symm (aR (aR (aR g27 g28) g29) rfl)) trivial)
 first|cases h|rw [←oJ h]
 exact (An (Eq.symm (aL (aR (aR g27 g28) g29))) trivial)
 first|cases h|rw [←oJ h]
 exact (An (Eq.symm (aL (aL (aR g27 g28)))) trivial)
 first|cases h|rw [←oJ h]
 exact (An (Eq.symm (aL (aL (aL g27)))) trivial)
 refine eN (cD h (fun g30 h=> ?_) (fun g30 h=> ?_))
 refine eN ?_
 obtain ⟨p,q,h⟩:=bS h
 obtain ⟨a,b,h⟩:=bS h
 obtain ⟨c,d,h⟩:=bS h
 refine eN (cK (An (cW (c_ref19_Validate p0.Sample p q) (fr trivial)) (r1 ?_)))
 refine An (fun g31=> ?_) (fun g31=> ?_)
 refine eX [iI (p0.Sample.Chains.length:Int)] (An (lenS enc_api_Chain p0.Sample.Chains) ?_)
 refine An (fun g32=> ?_) (fun g32=> ?_)
 refine eX (enc_api_Chain a) (An (idx_map enc_api_Chain (gdT (aR g31 g32) b)) ?_)
 refine An (fun g33=> ?_) (fun g33=> ?_)
 refine eX (enc_api_Chain c) (An (idx_map enc_api_Chain (gdT (aR (aR g31 g32) g33) d)) ?_)
 first|cases h|rw [←oJ h]
 exact (An (Eq.symm (aR (aR (aR g31 g32) g33) rfl)) trivial)
 first|cases h|rw [←oJ h]
 exact (An (Eq.symm (aL (aR (aR g31 g32) g33))) trivial)
 first|cases h|rw [←oJ h]
 exact (An (Eq.symm (aL (aL (aR g31 g32)))) trivial)
 first|cases h|rw [←oJ h]
 exact (An (Eq.symm (aL (aL (aL g31)))) trivial)
 refine eN (cD h (fun g34 h=> ?_) (fun g34 h=> ?_))
 refine eN ?_
 obtain ⟨s,t,h⟩:=bS h
 refine eN (cK (An (cW (c_ref20_Validate p0.Summary s t) (r3 (fr trivial))) (r1 ?_)))
 refine An (fun g35=> ?_) (fun g35=> ?_)
 refine An (fun g36=> ?_) (fun g36=> ?_)
 first|cases h|rw [←oJ h]
 exact (An (Eq.symm (aR (aR g35 g36) rfl)) trivial)
 first|cases h|rw [←oJ h]
 exact (An (Eq.symm (aL (aR g35 g36))) trivial)
 first|cases h|rw [←oJ h]
 exact (An (Eq.symm (aL (aL g35))) trivial)
 refine eN (cD h (fun g37 h=> ?_) (fun g37 h=> ?_))
 refine eN ?_
 obtain ⟨u,v,h⟩:=bS h
 refine eN (cK (An (cW (c_ref23_Validate p0.Quantile u v) (r4 (fr trivial))) (r1 ?_)))
 refine An (fun g38=> ?_) (fun g38=> ?_)
 refine An (fun g39=> ?_) (fun g39=> ?_)
 refine An (fun g40=> ?_) (fun g40=> ?_)
 first|cases h|rw [←oJ h]
 exact (An (Eq.symm (aR (aR (aR g38 g39) g40) rfl)) trivial)
 first|cases h|rw [←oJ h]
 exact (An (Eq.symm (aL (aR (aR g38 g39) g40))) trivial)
 first|cases h|rw [←oJ h]
 exact (An (Eq.symm (aL (aL (aR g38 g39)))) trivial)
 first|cases h|rw [←oJ h]
 exact (An (Eq.symm (aL (aL (aL g38)))) trivial)
 first|cases h|rw [←oJ h]
 exact eN (r1 trivial)
theorem c_ref25_Alone' (p0:api_Synopsis) (r:api_Synopsis) (h:ref25_Alone p0=r):Contract Tryz.prog 144 [.agg (enc_api_Synopsis p0)] [] (.agg (enc_api_Synopsis r)) []:=by
 refine C0 Tryz.func144 Tryz.call144 1 ?_
 delta ref25_Alone at h
 refine eN (eN (eN (eN (eN (eX (some (⟨api_Recent×api_Count×api_Sum×api_Smooth×api_Spread×api_Poly×Int×(List Int)×api_Extreme×(List api_Chain)×api_Summary×api_Quantile,fun q=> [tM 2 (.ptr 2 0),tM 3 (.ptr 260 0),tB 2 [iI (0:Int),iI (0:Int),iI (0:Int),iI (0:Int),iI (0:Int),iI (0:Int),iI (0:Int),iI (0:Int),iI (0:Int),iI (0:Int),iI (0:Int), .nilS,iI (0:Int),iI (0:Int),iI (0:Int),iI (0:Int), .nilS,iI (0:Int),iI (0:Int),iI (0:Int),iI (0:Int),iI (0:Int), .nilS,iI (0:Int),iI (0:Int),iI (0:Int),iI (0:Int),iI (0:Int),iI (0:Int), .nilS,iI (0:Int),iI (0:Int),iI (0:Int),iI (0:Int),iI (0:Int), .nilS,iI (0:Int),iI (0:Int),iI (0:Int), .nilS,iI (0:Int), .nilS, .bool false,iI (0:Int),iI (0:Int),iI (0:Int), .nilS, .nilS,iI (0:Int),iI (0:Int),iI (0:Int), .nilS,iI (0:Int),iI (0:Int),iI (0:Int),iI (0:Int), .nilS],tB 260 (List.append (enc_api_Config p0.Config) (List.append (enc_api_Recent q.1) (List.append (enc_api_Count q.2.1) (List.append (enc_api_Sum q.2.2.1) (List.append (enc_api_Smooth q.2.2.2.1) (List.append (enc_api_Spread q.2.2.2.2.1) (List.append (enc_api_Poly q.2.2.2.2.2.1) (iI q.2.2.2.2.2.2.1::(lF 1 (List.map (eI .i64) q.2.2.2.2.2.2.2.1)::(List.append (enc_api_Extreme q.2.2.2.2.2.2.2.2.1) (lF 5 (List.map enc_api_Chain q.2.2.2.2.2.2.2.2.2.1)::(List.append (enc_api_Summary q.2.2.2.2.2.2.2.2.2.2.1) (enc_api_Quantile q.2.2.2.2.2.2.2.2.2.2.2)))))))))))))],fun q=>ref25_Alone_j2 p0 q.1 q.2.1 q.2.2.1 q.2.2.2.1 q.2.2.2.2.1 q.2.2.2.2.2.1 q.2.2.2.2.2.2.1 q.2.2.2.2.2.2.2.1 q.2.2.2.2.2.2.2.2.1 q.2.2.2.2.2.2.2.2.2.1 q.2.2.2.2.2.2.2.2.2.2.1 q.2.2.2.2.2.2.2.2.2.2.2=r,fun _=>0⟩,1000000)) (An ?_ ?_))))))
 refine cD h (fun g1 h=> ?_) (fun g1 h=> ?_)
 exact eN (jT (p0.Recent,(api_Count.mk (0:Int) (0:Int) (0:Int) (0:Int) ([]:List api_Bucket)),(api_Sum.mk (0:Int) (0:Int) (0:Int) (0:Int) (0:Int) ([]:List api_Bucket)),(api_Smooth.mk (0:Int) (0:Int) (0:Int) (0:Int) (0:Int) (0:Int) ([]:List api_Mark)),(api_Spread.mk (0:Int) (0:Int) (0:Int) (0:Int) (0:Int) ([]:List api_Mark)),(api_Poly.mk (0:Int) (0:Int) (0:Int) ([]:List api_Wide)),(0:Int),([]:List Int),(api_Extreme.mk false (0:Int) (0:Int) (0:Int) ([]:List api_Item)),([]:List api_Chain),(api_Summary.mk (0:Int) (0:Int) (0:Int) ([]:List api_Tuple)),(api_Quantile.mk (0:Int) (0:Int) (0:Int) (0:Int) ([]:List api_Block))) (An h (r48 (r8 (r2 (fr (r32 (r12 (r1 trivial)))))))))
 refine eN (eN (cD h (fun g2 h=> ?_) (fun g2 h=> ?_)))
 exact eN (jT ((api_Recent.mk (0:Int) (0:Int) (0:Int) ([]:List api_Item)),p0.Count,(api_Sum.mk (0:Int) (0:Int) (0:Int) (0:Int) (0:Int) ([]:List api_Bucket)),(api_Smooth.mk (0:Int) (0:Int) (0:Int) (0:Int) (0:Int) (0:Int) ([]:List api_Mark)),(api_Spread.mk (0:Int) (0:Int) (0:Int) (0:Int) (0:Int) ([]:List api_Mark)),(api_Poly.mk (0:Int) (0:Int) (0:Int) ([]:List api_Wide)),(0:Int),([]:List Int),(api_Extreme.mk false (0:Int) (0:Int) (0:Int) ([]:List api_Item)),([]:List api_Chain),(api_Summary.mk (0:Int) (0:Int) (0:Int) ([]:List api_Tuple)),(api_Quantile.mk (0:Int) (0:Int) (0:Int) (0:Int) ([]:List api_Block))) (An h (r48 (r12 (r3 (fr (r32 (r8 trivial))))))))
 refine eN (eN (cD h (fun g3 h=> ?_) (fun g3 h=> ?_)))
 exact eN (jT ((api_Recent.mk (0:Int) (0:Int) (0:Int) ([]:List api_Item)),(api_Count.mk (0:Int) (0:Int) (0:Int) (0:Int) ([]:List api_Bucket)),p0.Sum,(api_Smooth.mk (0:Int) (0:Int) (0:Int) (0:Int) (0:Int) (0:Int) ([]:List api_Mark)),(api_Spread.mk (0:Int) (0:Int) (0:Int) (0:Int) (0:Int) ([]:List api_Mark)),(api_Poly.mk (0:Int) (0:Int) (0:Int) ([]:List api_Wide)),(0:Int),([]:List Int),(api_Extreme.mk false (0:Int) (0:Int) (0:Int) ([]:List api_Item)),([]:List api_Chain),(api_Summary.mk (0:Int) (0:Int) (0:Int) ([]:List api_Tuple)),(api_Quantile.mk (0:Int) (0:Int) (0:Int) (0:Int) ([]:List api_Block))) (An h (r64 (r5 (fr (r32 (r2 trivial)))))))
 refine eN (eN (cD h (fun g4 h=> ?_) (fun g4 h=> ?_)))
 exact eN (jT ((api_Recent.mk (0:Int) (0:Int) (0:Int) ([]:List api_Item)),(api_Count.mk (0:Int) (0:Int) (0:Int) (0:Int) ([]:List api_Bucket)),(api_Sum.mk (0:Int) (0:Int) (0:Int) (0:Int) (0:Int) ([]:List api_Bucket)),p0.Smooth,(api_Spread.mk (0:Int) (0:Int) (0:Int) (0:Int) (0:Int) ([]:List api_Mark)),(api_Poly.mk (0:Int) (0:Int) (0:Int) ([]:List api_Wide)),(0:Int),([]:List Int),(api_Extreme.mk false (0:Int) (0:Int) (0:Int) ([]:List api_Item)),([]:List api_Chain),(api_Summary.mk (0:Int) (0:Int) (0:Int) ([]:List api_Tuple)),(api_Quantile.mk (0:Int) (0:Int) (0:Int) (0:Int) ([]:List api_Block))) (An h (r64 (r12 (fr (r24 (r3 trivial)))))))
 refine eN (eN (cD h (fun g5 h=> ?_) (fun g5 h=> ?_)))
 exact eN (jT ((api_Recent.mk (0:Int) (0:Int) (0:Int) ([]:List api_Item)),(api_Count.mk (0:Int) (0:Int) (0:Int) (0:Int) ([]:List api_Bucket)),(api_Sum.mk (0:Int) (0:Int) (0:Int) (0:Int) (0:Int) ([]:List api_Bucket)),(api_Smooth.mk (0:Int) (0:Int) (0:Int) (0:Int) (0:Int) (0:Int) ([]:List api_Mark)),p0.Spread,(api_Poly.mk (0:Int) (0:Int) (0:Int) ([]:List api_Wide)),(0:Int),([]:List Int),(api_Extreme.mk false (0:Int) (0:Int) (0:Int) ([]:List api_Item)),([]:List api_Chain),(api_Summary.mk (0:Int) (0:Int) (0:Int) ([]:List api_Tuple)),(api_Quantile.mk (0:Int) (0:Int) (0:Int) (0:Int) ([]:List api_Block))) (An h (r64 (r16 (r2 (fr (r16 (r5 trivial))))))))
 refine eN (eN (cD h (fun g6 h=> ?_) (fun g6 h=> ?_)))
 exact eN (jT ((api_Recent.mk (0:Int) (0:Int) (0:Int) ([]:List api_Item)),(api_Count.mk (0:Int) (0:Int) (0:Int) (0:Int) ([]:List api_Bucket)),(api_Sum.mk (0:Int) (0:Int) (0:Int) (0:Int) (0:Int) ([]:List api_Bucket)),(api_Smooth.mk (0:Int) (0:Int) (0:Int) (0:Int) (0:Int) (0:Int) ([]:List api_Mark)),(api_Spread.mk (0:Int) (0:Int) (0:Int) (0:Int) (0:Int) ([]:List api_Mark)),p0.Poly,(0:Int),([]:List Int),(api_Extreme.mk false (0:Int) (0:Int) (0:Int) ([]:List api_Item)),([]:List api_Chain),(api_Summary.mk (0:Int) (0:Int) (0:Int) ([]:List api_Tuple)),(api_Quantile.mk (0:Int) (0:Int) (0:Int) (0:Int) ([]:List api_Block))) (An h (r64 (r16 (r6 (fr (r16 (r1 trivial))))))))
 refine eN (eN (cD h (fun g7 h=> ?_) (fun g7 h=> ?_)))
 exact eN (jT ((api_Recent.mk (0:Int) (0:Int) (0:Int) ([]:List api_Item)),(api_Count.mk (0:Int) (0:Int) (0:Int) (0:Int) ([]:List api_Bucket)),(api_Sum.mk (0:Int) (0:Int) (0:Int) (0:Int) (0:Int) ([]:List api_Bucket)),(api_Smooth.mk (0:Int) (0:Int) (0:Int) (0:Int) (0:Int) (0:Int) ([]:List api_Mark)),(api_Spread.mk (0:Int) (0:Int) (0:Int) (0:Int) (0:Int) ([]:List api_Mark)),(api_Poly.mk (0:Int) (0:Int) (0:Int) ([]:List api_Wide)),p0.Halve.Now,p0.Halve.Sums,(api_Extreme.mk false (0:Int) (0:Int) (0:Int) ([]:List api_Item)),([]:List api_Chain),(api_Summary.mk (0:Int) (0:Int) (0:Int) ([]:List api_Tuple)),(api_Quantile.mk (0:Int) (0:Int) (0:Int) (0:Int) ([]:List api_Block))) (An h (r64 (r24 (fr (r12 (r3 trivial)))))))
 refine eN (eN (cD h (fun g8 h=> ?_) (fun g8 h=> ?_)))
 exact eN (jT ((api_Recent.mk (0:Int) (0:Int) (0:Int) ([]:List api_Item)),(api_Count.mk (0:Int) (0:Int) (0:Int) (0:Int) ([]:List api_Bucket)),(api_Sum.mk (0:Int) (0:Int) (0:Int) (0:Int) (0:Int) ([]:List api_Bucket)),(api_Smooth.mk (0:Int) (0:Int) (0:Int) (0:Int) (0:Int) (0:Int) ([]:List api_Mark)),(api_Spread.mk (0:Int) (0:Int) (0:Int) (0:Int) (0:Int) ([]:List api_Mark)),(api_Poly.mk (0:Int) (0:Int) (0:Int) ([]:List api_Wide)),(0:Int),([]:List Int),p0.Extreme,([]:List api_Chain),(api_Summary.mk (0:Int) (0:Int) (0:Int) ([]:List api_Tuple)),(api_Quantile.mk (0:Int) (0:Int) (0:Int) (0:Int) ([]:List api_Block))) (An h (r64 (r24 (r5 (fr (r8 (r2 trivial))))))))
 refine eN (eN (cD h (fun g9 h=> ?_) (fun g9 h=> ?_)))
 exact eN (jT ((api_Recent.mk (0:Int) (0:Int) (0:Int) ([]:List api_Item)),(api_Count.mk (0:Int) (0:Int) (0:Int) (0:Int) ([]:List api_Bucket)),(api_Sum.mk (0:Int) (0:Int) (0:Int) (0:Int) (0:Int) ([]:List api_Bucket)),(api_Smooth.mk (0:Int) (0:Int) (0:Int) (0:Int) (0:Int) (0:Int) ([]:List api_Mark)),(api_Spread.mk (0:Int) (0:Int) (0:Int) (0:Int) (0:Int) ([]:List api_Mark)),(api_Poly.mk (0:Int) (0:Int) (0:Int) ([]:List api_Wide)),(0:Int),([]:List Int),(api_Extreme.mk false (0:Int) (0:Int) (0:Int) ([]:List api_Item)),p0.Sample.Chains,(api_Summary.mk (0:Int) (0:Int) (0:Int) ([]:List api_Tuple)),(api_Quantile.mk (0:Int) (0:Int) (0:Int) (0:Int) ([]:List api_Block))) (An h (r64 (r24 (r6 (fr (r8 (r1 trivial))))))))
 refine eN (eN (cD h (fun g10 h=> ?_) (fun g10 h=> ?_)))
 exact eN (jT ((api_Recent.mk (0:Int) (0:Int) (0:Int) ([]:List api_Item)),(api_Count.mk (0:Int) (0:Int) (0:Int) (0:Int) ([]:List api_Bucket)),(api_Sum.mk (0:Int) (0:Int) (0:Int) (0:Int) (0:Int) ([]:List api_Bucket)),(api_Smooth.mk (0:Int) (0:Int) (0:Int) (0:Int) (0:Int) (0:Int) ([]:List api_Mark)),(api_Spread.mk (0:Int) (0:Int) (0:Int) (0:Int) (0:Int) ([]:List api_Mark)),(api_Poly.mk (0:Int) (0:Int) (0:Int) ([]:List api_Wide)),(0:Int),([]:List Int),(api_Extreme.mk false (0:Int) (0:Int) (0:Int) ([]:List api_Item)),([]:List api_Chain),p0.Summary,(api_Quantile.mk (0:Int) (0:Int) (0:Int) (0:Int) ([]:List api_Block))) (An h (r64 (r32 (r2 (fr (r5 trivial)))))))
 refine eN (eN (cD h (fun g11 h=> ?_) (fun g11 h=> ?_)))
 exact eN (jT ((api_Recent.mk (0:Int) (0:Int) (0:Int) ([]:List api_Item)),(api_Count.mk (0:Int) (0:Int) (0:Int) (0:Int) ([]:List api_Bucket)),(api_Sum.mk (0:Int) (0:Int) (0:Int) (0:Int) (0:Int) ([]:List api_Bucket)),(api_Smooth.mk (0:Int) (0:Int) (0:Int) (0:Int) (0:Int) (0:Int) ([]:List api_Mark)),(api_Spread.mk (0:Int) (0:Int) (0:Int) (0:Int) (0:Int) ([]:List api_Mark)),(api_Poly.mk (0:Int) (0:Int) (0:Int) ([]:List api_Wide)),(0:Int),([]:List Int),(api_Extreme.mk false (0:Int) (0:Int) (0:Int) ([]:List api_Item)),([]:List api_Chain),(api_Summary.mk (0:Int) (0:Int) (0:Int) ([]:List api_Tuple)),p0.Quantile) (An h (r64 (r32 (r7 (fr trivial))))))
 exact jT ((api_Recent.mk (0:Int) (0:Int) (0:Int) ([]:List api_Item)),(api_Count.mk (0:Int) (0:Int) (0:Int) (0:Int) ([]:List api_Bucket)),(api_Sum.mk (0:Int) (0:Int) (0:Int) (0:Int) (0:Int) ([]:List api_Bucket)),(api_Smooth.mk (0:Int) (0:Int) (0:Int) (0:Int) (0:Int) (0:Int) ([]:List api_Mark)),(api_Spread.mk (0:Int) (0:Int) (0:Int) (0:Int) (0:Int) ([]:List api_Mark)),(api_Poly.mk (0:Int) (0:Int) (0:Int) ([]:List api_Wide)),(0:Int),([]:List Int),(api_Extreme.mk false (0:Int) (0:Int) (0:Int) ([]:List api_Item)),([]:List api_Chain),(api_Summary.mk (0:Int) (0:Int) (0:Int) ([]:List api_Tuple)),(api_Quantile.mk (0:Int) (0:Int) (0:Int) (0:Int) ([]:List api_Block))) (An h (r64 (r32 (r8 trivial))))
 clear h
 refine fun q h=> ?_
 obtain ⟨j,a,b,c,d,e,k,l,f,m,g,i⟩:=q
 replace h:ref25_Alone_j2 p0 j a b c d e k l f m g i=r:=h
 delta ref25_Alone_j2 at h
 cases h
 exact eN (r8 (r3 (fr (r4 (fr (r5 (fr (r6 (fr (r5 (fr (r3 (fr (r1 (fr (r4 (fr (fr (r3 (fr (r4 (fr trivial))))))))))))))))))))))
theorem c_ref05_SameItems (p0:(List api_Item)) (p1:(List api_Item)) (r:Bool) (h:ref05_SameItems p0 p1=some r):Contract Tryz.prog 160 [lF 2 (List.map enc_api_Item p0),lF 2 (List.map enc_api_Item p1)] [] (.sb r) []:=by
 refine C0 Tryz.func160 Tryz.call160 1 ?_
 delta ref05_SameItems at h
 refine eN (eN (eX [iI (p0.length:Int)] (An (lenS enc_api_Item p0) ?_)))
 refine eX [iI (p1.length:Int)] (An (lenS enc_api_Item p1) ?_)
 refine cD h (fun g1 h=> ?_) (fun g1 h=> ?_)
 first|cases h|rw [←oJ h]
 exact eN (r1 trivial)
 refine eN (eX [iI (p0.length:Int)] (An (lenS enc_api_Item p0) ?_))
 replace h:ref05_SameItems_l3 p0 p1 (0:Int)=some r:=h
 delta ref05_SameItems_l3 at h
 obtain ⟨n1,h⟩:=loopS h
 refine eX (Sum.inl ⟨Int×Nat,fun q=> [tM 0 (lF 2 (List.map enc_api_Item p0)),tM 1 (lF 2 (List.map enc_api_Item p1)),tM 12 (iI (p0.length:Int)),tM 13 (iI q.1)],fun q=>loopN (fun (s:Int)=>ref05_SameItems_l3s p0 p1 s) q.2 q.1=some r,fun q=>q.2⟩) (An (eX [] (eX [] (eX ((0:Int),n1) (An h (r1 (fr (fr (r2 trivial)))))))) ?_)
 clear h
 refine fun q h=> ?_
 obtain ⟨c,n1⟩:=q
 obtain ⟨m1,x1,hm1,h,hl1,hr1⟩:=loopN_step h
 replace hm1:n1=m1+1:=hm1
 subst hm1
 replace h:ref05_SameItems_l3s p0 p1 c=some x1:=h
 delta ref05_SameItems_l3s at h
 refine eN (cD h (fun g2 h=> ?_) (fun g2 h=> ?_))
 refine eN (eN ?_)
 obtain ⟨a,d,h⟩:=bS h
 obtain ⟨b,e,h⟩:=bS h
 refine eX [iI a.T,iI a.V] (An (idx_map enc_api_Item d) ?_)
 refine eX [iI b.T,iI b.V] (An (idx_map enc_api_Item e) ?_)
 refine cD h (fun g3 h=> ?_) (fun g3 h=> ?_)
 cases retS h hr1
 exact eN (r1 trivial)
 exact eN (jT (_,m1) (An (hl1 _ (oJ h).symm) (An (jL m1) (r1 (fr (fr (r2 trivial)))))))
 replace h:=popS h hr1
 first|cases h|rw [←oJ h]
 exact eN (r1 trivial)
theorem c_ref09_Same (p0:api_Recent) (p1:api_Recent) (r:Bool) (h:ref09_Same p0 p1=some r):Contract Tryz.prog 57 [.agg (enc_api_Recent p0), .agg (enc_api_Recent p1)] [] (.sb r) []:=by
 refine C0 Tryz.func57 Tryz.call57 1 ?_
 delta ref09_Same at h
 refine eN (eN ?_)
 obtain ⟨a,b,h⟩:=bS h
 refine eN (An (fun g1=> ?_) (fun g1=> ?_))
 refine An (fun g2=> ?_) (fun g2=> ?_)
 refine An (fun g3=> ?_) (fun g3=> ?_)
 refine cK (An (cW (c_ref05_SameItems p0.Items p1.Items a (gdT (aR (aR g1 g2) g3) b)) (fr (fr trivial))) (r1 ?_))
 first|cases h|rw [←oJ h]
 exact (An (Eq.symm (aR (aR (aR g1 g2) g3) rfl)) trivial)
 first|cases h|rw [←oJ h]
 exact (An (Eq.symm (aL (aR (aR g1 g2) g3))) trivial)
 first|cases h|rw [←oJ h]
 exact (An (Eq.symm (aL (aL (aR g1 g2)))) trivial)
 first|cases h|rw [←oJ h]
 exact (An (Eq.symm (aL (aL (aL g1)))) trivial)
theorem c_ref10_Same (p0:(List api_Bucket)) (p1:(List api_Bucket)) (r:Bool) (h:ref10_Same p0 p1=some r):Contract Tryz.prog 161 [lF 2 (List.map enc_api_Bucket p0),lF 2 (List.map enc_api_Bucket p1)] [] (.sb r) []:=by
 refine C0 Tryz.func161 Tryz.call161 1 ?_
 delta ref10_Same at h
 refine eN (eN (eX [iI (p0.length:Int)] (An (lenS enc_api_Bucket p0) ?_)))
 refine eX [iI (p1.length:Int)] (An (lenS enc_api_Bucket p1) ?_)
 refine cD h (fun g1 h=> ?_) (fun g1 h=> ?_)
 first|cases h|rw [←oJ h]
 exact eN (r1 trivial)
 refine eN (eX [iI (p0.length:Int)] (An (lenS enc_api_Bucket p0) ?_))
 replace h:ref10_Same_l3 p0 p1 (0:Int)=some r:=h
 delta ref10_Same_l3 at h
 obtain ⟨n1,h⟩:=loopS h
 refine eX (Sum.inl ⟨Int×Nat,fun q=> [tM 0 (lF 2 (List.map enc_api_Bucket p0)),tM 1 (lF 2 (List.map enc_api_Bucket p1)),tM 12 (iI (p0.length:Int)),tM 13 (iI q.1)],fun q=>loopN (fun (s:Int)=>ref10_Same_l3s p0 p1 s) q.2 q.1=some r,fun q=>q.2⟩) (An (eX [] (eX [] (eX ((0:Int),n1) (An h (r1 (fr (fr (r2 trivial)))))))) ?_)
 clear h
 refine fun q h=> ?_
 obtain ⟨c,n1⟩:=q
 obtain ⟨m1,x1,hm1,h,hl1,hr1⟩:=loopN_step h
 replace hm1:n1=m1+1:=hm1
 subst hm1
 replace h:ref10_Same_l3s p0 p1 c=some x1:=h
 delta ref10_Same_l3s at h
 refine eN (cD h (fun g2 h=> ?_) (fun g2 h=> ?_))
 refine eN (eN ?_)
 obtain ⟨a,d,h⟩:=bS h
 obtain ⟨b,e,h⟩:=bS h
 refine eX [iI a.T,iI a.Level] (An (idx_map enc_api_Bucket d) ?_)
 refine eX [iI b.T,iI b.Level] (An (idx_map enc_api_Bucket e) ?_)
 refine cD h (fun g3 h=> ?_) (fun g3 h=> ?_)
 cases retS h hr1
 exact eN (r1 trivial)
 exact eN (jT (_,m1) (An (hl1 _ (oJ h).symm) (An (jL m1) (r1 (fr (fr (r2 trivial)))))))
 replace h:=popS h hr1
 first|cases h|rw [←oJ h]
 exact eN (r1 trivial)
theorem c_ref11_Same (p0:api_Count) (p1:api_Count) (r:Bool) (h:ref11_Same p0 p1=some r):Contract Tryz.prog 58 [.agg (enc_api_Count p0), .agg (enc_api_Count p1)] [] (.sb r) []:=by
 refine C0 Tryz.func58 Tryz.call58 1 ?_
 delta ref11_Same at h
 refine eN (eN ?_)
 obtain ⟨a,b,h⟩:=bS h
 refine eN (An (fun g1=> ?_) (fun g1=> ?_))
 refine An (fun g2=> ?_) (fun g2=> ?_)
 refine An (fun g3=> ?_) (fun g3=> ?_)
 refine An (fun g4=> ?_) (fun g4=> ?_)
 refine cK (An (cW (c_ref10_Same p0.Buckets p1.Buckets a (gdT (aR (aR (aR g1 g2) g3) g4) b)) (fr (fr trivial))) (r1 ?_))
 first|cases h|rw [←oJ h]
 exact (An (Eq.symm (aR (aR (aR (aR g1 g2) g3) g4) rfl)) trivial)
 first|cases h|rw [←oJ h]
 exact (An (Eq.symm (aL (aR (aR (aR g1 g2) g3) g4))) trivial)
 first|cases h|rw [←oJ h]
 exact (An (Eq.symm (aL (aL (aR (aR g1 g2) g3)))) trivial)
 first|cases h|rw [←oJ h]
 exact (An (Eq.symm (aL (aL (aL (aR g1 g2))))) trivial)
 first|cases h|rw [←oJ h]
 exact (An (Eq.symm (aL (aL (aL (aL g1))))) trivial)
theorem c_ref12_Same (p0:api_Sum) (p1:api_Sum) (r:Bool) (h:ref12_Same p0 p1=some r):Contract Tryz.prog 59 [.agg (enc_api_Sum p0), .agg (enc_api_Sum p1)] [] (.sb r) []:=by
 refine C0 Tryz.func59 Tryz.call59 1 ?_
 delta ref12_Same at h
 refine eN (eN ?_)
 obtain ⟨a,b,h⟩:=bS h
 refine eN (An (fun g1=> ?_) (fun g1=> ?_))
 refine An (fun g2=> ?_) (fun g2=> ?_)
 refine An (fun g3=> ?_) (fun g3=> ?_)
 refine An (fun g4=> ?_) (fun g4=> ?_)
 refine An (fun g5=> ?_) (fun g5=> ?_)
 refine cK (An (cW (c_ref10_Same p0.Buckets p1.Buckets a (gdT (aR (aR (aR (aR g1 g2) g3) g4) g5) b)) (fr (fr trivial))) (r1 ?_))
 first|cases h|rw [←oJ h]
 exact (An (Eq.symm (aR (aR (aR (aR (aR g1 g2) g3) g4) g5) rfl)) trivial)
 first|cases h|rw [←oJ h]
 exact (An (Eq.symm (aL (aR (aR (aR (aR g1 g2) g3) g4) g5))) trivial)
 first|cases h|rw [←oJ h]
 exact (An (Eq.symm (aL (aL (aR (aR (aR g1 g2) g3) g4)))) trivial)
 first|cases h|rw [←oJ h]
 exact (An (Eq.symm (aL (aL (aL (aR (aR g1 g2) g3))))) trivial)
 first|cases h|rw [←oJ h]
 exact (An (Eq.symm (aL (aL (aL (aL (aR g1 g2)))))) trivial)
 first|cases h|rw [←oJ h]
 exact (An (Eq.symm (aL (aL (aL (aL (aL g1)))))) trivial)
theorem c_ref13_SameMarks (p0:(List api_Mark)) (p1:(List api_Mark)) (r:Bool) (h:ref13_SameMarks p0 p1=some r):Contract Tryz.prog 162 [lF 7 (List.map enc_api_Mark p0),lF 7 (List.map enc_api_Mark p1)] [] (.sb r) []:=by
 refine C0 Tryz.func162 Tryz.call162 1 ?_
 delta ref13_SameMarks at h
 refine eN (eN (eX [iI (p0.length:Int)] (An (lenS enc_api_Mark p0) ?_)))
 refine eX [iI (p1.length:Int)] (An (lenS enc_api_Mark p1) ?_)
 refine cD h (fun g1 h=> ?_) (fun g1 h=> ?_)
 first|cases h|rw [←oJ h]
 exact eN (r1 trivial)
 refine eN (eX [iI (p0.length:Int)] (An (lenS enc_api_Mark p0) ?_))
 replace h:ref13_SameMarks_l3 p0 p1 (0:Int)=some r:=h
 delta ref13_SameMarks_l3 at h
 obtain ⟨n1,h⟩:=loopS h
 refine eX (Sum.inl ⟨Int×Nat,fun q=> [tM 0 (lF 7 (List.map enc_api_Mark p0)),tM 1 (lF 7 (List.map enc_api_Mark p1)),tM 12 (iI (p0.length:Int)),tM 13 (iI q.1)],fun q=>loopN (fun (s:Int)=>ref13_SameMarks_l3s p0 p1 s) q.2 q.1=some r,fun q=>q.2⟩) (An (eX [] (eX [] (eX ((0:Int),n1) (An h (r1 (fr (fr (r2 trivial)))))))) ?_)
 clear h
 refine fun q h=> ?_
 obtain ⟨a,n1⟩:=q
 obtain ⟨m1,x1,hm1,h,hl1,hr1⟩:=loopN_step h
 replace hm1:n1=m1+1:=hm1
 subst hm1
 replace h:ref13_SameMarks_l3s p0 p1 a=some x1:=h
 delta ref13_SameMarks_l3s at h
 refine eN (cD h (fun g2 h=> ?_) (fun g2 h=> ?_))
 refine eN (eN ?_)
 obtain ⟨b,c,h⟩:=bS h
 obtain ⟨d,e,h⟩:=bS h
 refine eX (enc_api_Mark b) (An (idx_map enc_api_Mark c) ?_)
 refine eX (enc_api_Mark d) (An (idx_map enc_api_Mark e) ?_)
 refine cD h (fun g3 h=> ?_) (fun g3 h=> ?_)
 cases retS h hr1
 exact eN (r1 trivial)
 exact eN (jT (_,m1) (An (hl1 _ (oJ h).symm) (An (jL m1) (r1 (fr (fr (r2 trivial)))))))
 replace h:=popS h hr1
 first|cases h|rw [←oJ h]
 exact eN (r1 trivial)
theorem c_ref13_Same (p0:api_Smooth) (p1:api_Smooth) (r:Bool) (h:ref13_Same p0 p1=some r):Contract Tryz.prog 60 [.agg (enc_api_Smooth p0), .agg (enc_api_Smooth p1)] [] (.sb r) []:=by
 refine C0 Tryz.func60 Tryz.call60 1 ?_
 delta ref13_Same at h
 refine eN (eN ?_)
 obtain ⟨a,b,h⟩:=bS h
 refine eN (An (fun g1=> ?_) (fun g1=> ?_))
 refine An (fun g2=> ?_) (fun g2=> ?_)
 refine An (fun g3=> ?_) (fun g3=> ?_)
 refine An (fun g4=> ?_) (fun g4=> ?_)
 refine An (fun g5=> ?_) (fun g5=> ?_)
 refine An (fun g6=> ?_) (fun g6=> ?_)
 refine cK (An (cW (c_ref13_SameMarks p0.Marks p1.Marks a (gdT (aR (aR (aR (aR (aR g1 g2) g3) g4) g5) g6) b)) (fr (fr trivial))) (r1 ?_))
 first|cases h|rw [←oJ h]
 exact (An (Eq.symm (aR (aR (aR (aR (aR (aR g1 g2) g3) g4) g5) g6) rfl)) trivial)
 first|cases h|rw [←oJ h]
 exact (An (Eq.symm (aL (aR (aR (aR (aR (aR g1 g2) g3) g4) g5) g6))) trivial)
 first|cases h|rw [←oJ h]
 exact (An (Eq.symm (aL (aL (aR (aR (aR (aR g1 g2) g3) g4) g5)))) trivial)
 first|cases h|rw [←oJ h]
 exact (An (Eq.symm (aL (aL (aL (aR (aR (aR g1 g2) g3) g4))))) trivial)
 first|cases h|rw [←oJ h]
 exact (An (Eq.symm (aL (aL (aL (aL (aR (aR g1 g2) g3)))))) trivial)
 first|cases h|rw [←oJ h]
 exact (An (Eq.symm (aL (aL (aL (aL (aL (aR g1 g2))))))) trivial)
 first|cases h|rw [←oJ h]
 exact (An (Eq.symm (aL (aL (aL (aL (aL (aL g1))))))) trivial)
theorem c_ref14_Same (p0:api_Spread) (p1:api_Spread) (r:Bool) (h:ref14_Same p0 p1=some r):Contract Tryz.prog 61 [.agg (enc_api_Spread p0), .agg (enc_api_Spread p1)] [] (.sb r) []:=by
 refine C0 Tryz.func61 Tryz.call61 1 ?_
 delta ref14_Same at h
 refine eN (eN ?_)
 obtain ⟨a,b,h⟩:=bS h
 refine eN (An (fun g1=> ?_) (fun g1=> ?_))
 refine An (fun g2=> ?_) (fun g2=> ?_)
 refine An (fun g3=> ?_) (fun g3=> ?_)
 refine An (fun g4=> ?_) (fun g4=> ?_)
 refine An (fun g5=> ?_) (fun g5=> ?_)
 refine cK (An (cW (c_ref13_SameMarks p0.Marks p1.Marks a (gdT (aR (aR (aR (aR g1 g2) g3) g4) g5) b)) (fr (fr trivial))) (r1 ?_))
 first|cases h|rw [←oJ h]
 exact (An (Eq.symm (aR (aR (aR (aR (aR g1 g2) g3) g4) g5) rfl)) trivial)
 first|cases h|rw [←oJ h]
 exact (An (Eq.symm (aL (aR (aR (aR (aR g1 g2) g3) g4) g5))) trivial)
 first|cases h|rw [←oJ h]
 exact (An (Eq.symm (aL (aL (aR (aR (aR g1 g2) g3) g4)))) trivial)
 first|cases h|rw [←oJ h]
 exact (An (Eq.symm (aL (aL (aL (aR (aR g1 g2) g3))))) trivial)
 first|cases h|rw [←oJ h]
 exact (An (Eq.symm (aL (aL (aL (aL (aR g1 g2)))))) trivial)
 first|cases h|rw [←oJ h]
 exact (An (Eq.symm (aL (aL (aL (aL (aL g1)))))) trivial)
theorem c_ref15_SameWide (p0:(List api_Wide)) (p1:(List api_Wide)) (r:Bool) (h:ref15_SameWide p0 p1=some r):Contract Tryz.prog 163 [lF 2 (List.map enc_api_Wide p0),lF 2 (List.map enc_api_Wide p1)] [] (.sb r) []:=by
 refine C0 Tryz.func163 Tryz.call163 1 ?_
 delta ref15_SameWide at h
 refine eN (eN (eX [iI (p0.length:Int)] (An (lenS enc_api_Wide p0) ?_)))
 refine eX [iI (p1.length:Int)] (An (lenS enc_api_Wide p1) ?_)
 refine cD h (fun g1 h=> ?_) (fun g1 h=> ?_)
 first|cases h|rw [←oJ h]
 exact eN (r1 trivial)
 refine eN (eX [iI (p0.length:Int)] (An (lenS enc_api_Wide p0) ?_))
 replace h:ref15_SameWide_l3 p0 p1 (0:Int)=some r:=h
 delta ref15_SameWide_l3 at h
 obtain ⟨n1,h⟩:=loopS h
 refine eX (Sum.inl ⟨Int×Nat,fun q=> [tM 0 (lF 2 (List.map enc_api_Wide p0)),tM 1 (lF 2 (List.map enc_api_Wide p1)),tM 12 (iI (p0.length:Int)),tM 13 (iI q.1)],fun q=>loopN (fun (s:Int)=>ref15_SameWide_l3s p0 p1 s) q.2 q.1=some r,fun q=>q.2⟩) (An (eX [] (eX [] (eX ((0:Int),n1) (An h (r1 (fr (fr (r2 trivial)))))))) ?_)
 clear h
 refine fun q h=> ?_
 obtain ⟨c,n1⟩:=q
 obtain ⟨m1,x1,hm1,h,hl1,hr1⟩:=loopN_step h
 replace hm1:n1=m1+1:=hm1
 subst hm1
 replace h:ref15_SameWide_l3s p0 p1 c=some x1:=h
 delta ref15_SameWide_l3s at h
 refine eN (cD h (fun g2 h=> ?_) (fun g2 h=> ?_))
 refine eN (eN ?_)
 obtain ⟨a,d,h⟩:=bS h
 obtain ⟨b,e,h⟩:=bS h
 refine eX [iU a.Hi,iU a.Lo] (An (idx_map enc_api_Wide d) ?_)
 refine eX [iU b.Hi,iU b.Lo] (An (idx_map enc_api_Wide e) ?_)
 refine cD h (fun g3 h=> ?_) (fun g3 h=> ?_)
 cases retS h hr1
 exact eN (r1 trivial)
 exact eN (jT (_,m1) (An (hl1 _ (oJ h).symm) (An (jL m1) (r1 (fr (fr (r2 trivial)))))))
 replace h:=popS h hr1
 first|cases h|rw [←oJ h]
 exact eN (r1 trivial)
theorem c_ref15_Same (p0:api_Poly) (p1:api_Poly) (r:Bool) (h:ref15_Same p0 p1=some r):Contract Tryz.prog 62 [.agg (enc_api_Poly p0), .agg (enc_api_Poly p1)] [] (.sb r) []:=by
 refine C0 Tryz.func62 Tryz.call62 1 ?_
 delta ref15_Same at h
 refine eN (eN ?_)
 obtain ⟨a,b,h⟩:=bS h
 refine eN (An (fun g1=> ?_) (fun g1=> ?_))
 refine An (fun g2=> ?_) (fun g2=> ?_)
 refine An (fun g3=> ?_) (fun g3=> ?_)
 refine cK (An (cW (c_ref15_SameWide p0.Moments p1.Moments a (gdT (aR (aR g1 g2) g3) b)) (fr (fr trivial))) (r1 ?_))
 first|cases h|rw [←oJ h]
 exact (An (Eq.symm (aR (aR (aR g1 g2) g3) rfl)) trivial)
 first|cases h|rw [←oJ h]
 exact (An (Eq.symm (aL (aR (aR g1 g2) g3))) trivial)
 first|cases h|rw [←oJ h]
 exact (An (Eq.symm (aL (aL (aR g1 g2)))) trivial)
 first|cases h|rw [←oJ h]
 exact (An (Eq.symm (aL (aL (aL g1)))) trivial)
theorem c_ref09_SameNumbers (p0:(List Int)) (p1:(List Int)) (r:Bool) (h:ref09_SameNumbers p0 p1=some r):Contract Tryz.prog 164 [lF 1 (List.map (eI .i64) p0),lF 1 (List.map (eI .i64) p1)] [] (.sb r) []:=by
 refine C0 Tryz.func164 Tryz.call164 1 ?_
 delta ref09_SameNumbers at h
 refine eN (eN (eX [iI (p0.length:Int)] (An (lenS (eI .i64) p0) ?_)))
 refine eX [iI (p1.length:Int)] (An (lenS (eI .i64) p1) ?_)
 refine cD h (fun g1 h=> ?_) (fun g1 h=> ?_)
 first|cases h|rw [←oJ h]
 exact eN (r1 trivial)
 refine eN (eX [iI (p0.length:Int)] (An (lenS (eI .i64) p0) ?_))
 replace h:ref09_SameNumbers_l3 p0 p1 (0:Int)=some r:=h
 delta ref09_SameNumbers_l3 at h
 obtain ⟨n1,h⟩:=loopS h
 refine eX (Sum.inl ⟨Int×Nat,fun q=> [tM 0 (lF 1 (List.map (eI .i64) p0)),tM 1 (lF 1 (List.map (eI .i64) p1)),tM 12 (iI (p0.length:Int)),tM 13 (iI q.1)],fun q=>loopN (fun (s:Int)=>ref09_SameNumbers_l3s p0 p1 s) q.2 q.1=some r,fun q=>q.2⟩) (An (eX [] (eX [] (eX ((0:Int),n1) (An h (r1 (fr (fr (r2 trivial)))))))) ?_)
 clear h
 refine fun q h=> ?_
 obtain ⟨a,n1⟩:=q
 obtain ⟨m1,x1,hm1,h,hl1,hr1⟩:=loopN_step h
 replace hm1:n1=m1+1:=hm1
 subst hm1
 replace h:ref09_SameNumbers_l3s p0 p1 a=some x1:=h
 delta ref09_SameNumbers_l3s at h
 refine eN (cD h (fun g2 h=> ?_) (fun g2 h=> ?_))
 refine eN (eN ?_)
 obtain ⟨b,c,h⟩:=bS h
 obtain ⟨d,e,h⟩:=bS h
 refine eX [iI b] (An (idx_map (eI .i64) c) ?_)
 refine eX [iI d] (An (idx_map (eI .i64) e) ?_)
 refine cD h (fun g3 h=> ?_) (fun g3 h=> ?_)
 cases retS h hr1
 exact eN (r1 trivial)
 exact eN (jT (_,m1) (An (hl1 _ (oJ h).symm) (An (jL m1) (r1 (fr (fr (r2 trivial)))))))
 replace h:=popS h hr1
 first|cases h|rw [←oJ h]
 exact eN (r1 trivial)
theorem c_ref16_Same (p0:api_Halve) (p1:api_Halve) (r:Bool) (h:ref16_Same p0 p1=some r):Contract Tryz.prog 63 [.agg [iI p0.Now,lF 1 (List.map (eI .i64) p0.Sums)], .agg [iI p1.Now,lF 1 (List.map (eI .i64) p1.Sums)]] [] (.sb r) []:=by
 refine C0 Tryz.func63 Tryz.call63 1 ?_
 delta ref16_Same at h
 refine eN (eN ?_)
 obtain ⟨a,b,h⟩:=bS h
 refine eN (An (fun g1=> ?_) (fun g1=> ?_))
 refine cK (An (cW (c_ref09_SameNumbers p0.Sums p1.Sums a (gdT g1 b)) (fr (fr trivial))) (r1 ?_))
 first|cases h|rw [←oJ h]
 exact (An (Eq.symm (aR g1 rfl)) trivial)
 first|cases h|rw [←oJ h]
 exact (An (Eq.symm (aL g1)) trivial)
theorem c_ref17_Same (p0:api_Extreme) (p1:api_Extreme) (r:Bool) (h:ref17_Same p0 p1=some r):Contract Tryz.prog 64 [.agg (enc_api_Extreme p0), .agg (enc_api_Extreme p1)] [] (.sb r) []:=by
 refine C0 Tryz.func64 Tryz.call64 1 ?_
 delta ref17_Same at h
 refine eN (eN ?_)
 obtain ⟨a,b,h⟩:=bS h
 refine eN (An (fun g1=> ?_) (fun g1=> ?_))
 refine An (fun g2=> ?_) (fun g2=> ?_)
 refine An (fun g3=> ?_) (fun g3=> ?_)
 refine An (fun g4=> ?_) (fun g4=> ?_)
 refine cK (An (cW (c_ref05_SameItems p0.Items p1.Items a (gdT (aR (aR (aR g1 g2) g3) g4) b)) (fr (fr trivial))) (r1 ?_))
 first|cases h|rw [←oJ h]
 exact (An (Eq.symm (aR (aR (aR (aR g1 g2) g3) g4) rfl)) trivial)
 first|cases h|rw [←oJ h]
 exact (An (Eq.symm (aL (aR (aR (aR g1 g2) g3) g4))) trivial)
 first|cases h|rw [←oJ h]
 exact (An (Eq.symm (aL (aL (aR (aR g1 g2) g3)))) trivial)
 first|cases h|rw [←oJ h]
 exact (An (Eq.symm (aL (aL (aL (aR g1 g2))))) trivial)
 first|cases h|rw [←oJ h]
 exact (An (Eq.symm (aL (aL (aL (aL g1))))) trivial)
theorem c_ref18_Same (p0:api_Chain) (p1:api_Chain) (r:Bool) (h:ref18_Same p0 p1=some r):Contract Tryz.prog 165 [.agg (enc_api_Chain p0), .agg (enc_api_Chain p1)] [] (.sb r) []:=by
 refine C0 Tryz.func165 Tryz.call165 1 ?_
 delta ref18_Same at h
 refine eN (eN (eN (An (fun g1=> ?_) (fun g1=> ?_))))
 refine An (fun g2=> ?_) (fun g2=> ?_)
 refine An (fun g3=> ?_) (fun g3=> ?_)
 refine An (fun g4=> ?_) (fun g4=> ?_)
 refine eX [iI (p0.Links.length:Int)] (An (lenS enc_api_Link p0.Links) ?_)
 refine eX [iI (p1.Links.length:Int)] (An (lenS enc_api_Link p1.Links) ?_)
 refine An (fun g5=> ?_) (fun g5=> ?_)
 replace h:=cT (oR (oR (oR (oR g1 g2) g3) g4) g5) h
 first|cases h|rw [←oJ h]
 exact eN (r1 trivial)
 replace h:=cF (oR (oR (oR (oR g1 g2) g3) g4) g5) h
 refine eN (eX [iI (p0.Links.length:Int)] (An (lenS enc_api_Link p0.Links) ?_))
 replace h:ref18_Same_l3 p0 p1 (0:Int)=some r:=h
 delta ref18_Same_l3 at h
 obtain ⟨n1,h⟩:=loopS h
 refine eX (Sum.inl ⟨Int×Nat,fun q=> [tM 2 (.ptr 1 0),tM 3 (.ptr 2 0),tM 43 (iI (p0.Links.length:Int)),tM 44 (iI q.1),tB 1 (enc_api_Chain p0),tB 2 (enc_api_Chain p1)],fun q=>loopN (fun (s:Int)=>ref18_Same_l3s p0 p1 s) q.2 q.1=some r,fun q=>q.2⟩) (An (eX [] (eX [] (eX ((0:Int),n1) (An h (r7 (fr (r4 (fr trivial)))))))) ?_)
 clear h
 refine fun q h=> ?_
 obtain ⟨c,n1⟩:=q
 obtain ⟨m1,x1,hm1,h,hl1,hr1⟩:=loopN_step h
 replace hm1:n1=m1+1:=hm1
 subst hm1
 replace h:ref18_Same_l3s p0 p1 c=some x1:=h
 delta ref18_Same_l3s at h
 refine eN (cD h (fun g6 h=> ?_) (fun g6 h=> ?_))
 refine eN (eN ?_)
 obtain ⟨a,d,h⟩:=bS h
 obtain ⟨b,e,h⟩:=bS h
 refine eX [iI a.I,iI a.V] (An (idx_map enc_api_Link d) ?_)
 refine eX [iI b.I,iI b.V] (An (idx_map enc_api_Link e) ?_)
 refine cD h (fun g7 h=> ?_) (fun g7 h=> ?_)
 cases retS h hr1
 exact eN (r1 trivial)
 exact eN (jT (_,m1) (An (hl1 _ (oJ h).symm) (An (jL m1) (r7 (fr (r4 (fr trivial)))))))
 replace h:=popS h hr1
 first|cases h|rw [←oJ h]
 exact eN (r1 trivial)
 replace h:=cT (oL (oR (oR (oR g1 g2) g3) g4)) h
 first|cases h|rw [←oJ h]
 exact eN (r1 trivial)
 replace h:=cT (oL (oL (oR (oR g1 g2) g3))) h
 first|cases h|rw [←oJ h]
 exact eN (r1 trivial)
 replace h:=cT (oL (oL (oL (oR g1 g2)))) h
 first|cases h|rw [←oJ h]
 exact eN (r1 trivial)
 replace h:=cT (oL (oL (oL (oL g1)))) h
 first|cases h|rw [←oJ h]
 exact eN (r1 trivial)
theorem c_ref19_Same (p0:api_Sample) (p1:api_Sample) (r:Bool) (h:ref19_Same p0 p1=some r):Contract Tryz.prog 65 [.agg [lF 5 (List.map enc_api_Chain p0.Chains)], .agg [lF 5 (List.map enc_api_Chain p1.Chains)]] [] (.sb r) []:=by
 refine C0 Tryz.func65 Tryz.call65 1 ?_
 delta ref19_Same at h
 refine eN (eN (eX [iI (p0.Chains.length:Int)] (An (lenS enc_api_Chain p0.Chains) ?_)))
 refine eX [iI (p1.Chains.length:Int)] (An (lenS enc_api_Chain p1.Chains) ?_)
 refine cD h (fun g1 h=> ?_) (fun g1 h=> ?_)
 first|cases h|rw [←oJ h]
 exact eN (r1 trivial)
 refine eN (eX [iI (p0.Chains.length:Int)] (An (lenS enc_api_Chain p0.Chains) ?_))
 replace h:ref19_Same_l3 p0 p1 (0:Int)=some r:=h
 delta ref19_Same_l3 at h
 obtain ⟨n1,h⟩:=loopS h
 refine eX (Sum.inl ⟨Int×Nat,fun q=> [tM 2 (.ptr 1 0),tM 3 (.ptr 2 0),tM 15 (iI (p0.Chains.length:Int)),tM 16 (iI q.1),tB 1 [lF 5 (List.map enc_api_Chain p0.Chains)],tB 2 [lF 5 (List.map enc_api_Chain p1.Chains)]],fun q=>loopN (fun (s:Int)=>ref19_Same_l3s p0 p1 s) q.2 q.1=some r,fun q=>q.2⟩) (An (eX [] (eX [] (eX ((0:Int),n1) (An h (r3 (fr (fr trivial))))))) ?_)
 clear h
 refine fun q h=> ?_
 obtain ⟨c,n1⟩:=q
 obtain ⟨m1,x1,hm1,h,hl1,hr1⟩:=loopN_step h
 replace hm1:n1=m1+1:=hm1
 subst hm1
 replace h:ref19_Same_l3s p0 p1 c=some x1:=h
 delta ref19_Same_l3s at h
 refine eN (cD h (fun g2 h=> ?_) (fun g2 h=> ?_))
 refine eN (eN ?_)
 obtain ⟨a,f,h⟩:=bS h
 obtain ⟨b,g,h⟩:=bS h
 obtain ⟨d,e,h⟩:=bS h
 refine eX (enc_api_Chain a) (An (idx_map enc_api_Chain f) ?_)
 refine eX (enc_api_Chain b) (An (idx_map enc_api_Chain g) ?_)
 refine cK (An (cW (c_ref18_Same a b d e) (r4 (fr (r4 (fr trivial))))) (r1 ?_))
 refine cD h (fun g3 h=> ?_) (fun g3 h=> ?_)
 cases retS h hr1
 exact eN (r1 trivial)
 exact eN (jT (_,m1) (An (hl1 _ (oJ h).symm) (An (jL m1) (r3 (fr (fr trivial))))))
 replace h:=popS h hr1
 first|cases h|rw [←oJ h]
 exact eN (r1 trivial)
theorem c_ref20_Same (p0:api_Summary) (p1:api_Summary) (r:Bool) (h:ref20_Same p0 p1=some r):Contract Tryz.prog 66 [.agg (enc_api_Summary p0), .agg (enc_api_Summary p1)] [] (.sb r) []:=by
 refine C0 Tryz.func66 Tryz.call66 1 ?_
 delta ref20_Same at h
 refine eN (eN (eN (An (fun g1=> ?_) (fun g1=> ?_))))
 refine An (fun g2=> ?_) (fun g2=> ?_)
 refine An (fun g3=> ?_) (fun g3=> ?_)
 refine eX [iI (p0.Tuples.length:Int)] (An (lenS enc_api_Tuple p0.Tuples) ?_)
 refine eX [iI (p1.Tuples.length:Int)] (An (lenS enc_api_Tuple p1.Tuples) ?_)
 refine An (fun g4=> ?_) (fun g4=> ?_)
 replace h:=cT (oR (oR (oR g1 g2) g3) g4) h
 first|cases h|rw [←oJ h]
 exact eN (r1 trivial)
 replace h:=cF (oR (oR (oR g1 g2) g3) g4) h
 refine eN (eX [iI (p0.Tuples.length:Int)] (An (lenS enc_api_Tuple p0.Tuples) ?_))
 replace h:ref20_Same_l3 p0 p1 (0:Int)=some r:=h
 delta ref20_Same_l3 at h
 obtain ⟨n1,h⟩:=loopS h
 refine eX (Sum.inl ⟨Int×Nat,fun q=> [tM 2 (.ptr 1 0),tM 3 (.ptr 2 0),tM 36 (iI (p0.Tuples.length:Int)),tM 37 (iI q.1),tB 1 (enc_api_Summary p0),tB 2 (enc_api_Summary p1)],fun q=>loopN (fun (s:Int)=>ref20_Same_l3s p0 p1 s) q.2 q.1=some r,fun q=>q.2⟩) (An (eX [] (eX [] (eX ((0:Int),n1) (An h (r6 (fr (r3 (fr trivial)))))))) ?_)
 clear h
 refine fun q h=> ?_
 obtain ⟨c,n1⟩:=q
 obtain ⟨m1,x1,hm1,h,hl1,hr1⟩:=loopN_step h
 replace hm1:n1=m1+1:=hm1
 subst hm1
 replace h:ref20_Same_l3s p0 p1 c=some x1:=h
 delta ref20_Same_l3s at h
 refine eN (cD h (fun g5 h=> ?_) (fun g5 h=> ?_))
 refine eN (eN ?_)
 obtain ⟨a,d,h⟩:=bS h
 obtain ⟨b,e,h⟩:=bS h
 refine eX [iI a.V,iI a.G,iI a.D] (An (idx_map enc_api_Tuple d) ?_)
 refine eX [iI b.V,iI b.G,iI b.D] (An (idx_map enc_api_Tuple e) ?_)
 refine cD h (fun g6 h=> ?_) (fun g6 h=> ?_)
 cases retS h hr1
 exact eN (r1 trivial)
 exact eN (jT (_,m1) (An (hl1 _ (oJ h).symm) (An (jL m1) (r6 (fr (r3 (fr trivial)))))))
 replace h:=popS h hr1
 first|cases h|rw [←oJ h]
 exact eN (r1 trivial)
 replace h:=cT (oL (oR (oR g1 g2) g3)) h
 first|cases h|rw [←oJ h]
 exact eN (r1 trivial)
 replace h:=cT (oL (oL (oR g1 g2))) h
 first|cases h|rw [←oJ h]
 exact eN (r1 trivial)
 replace h:=cT (oL (oL (oL g1))) h
 first|cases h|rw [←oJ h]
 exact eN (r1 trivial)
theorem c_ref21_Same (p0:api_Ranks) (p1:api_Ranks) (r:Bool) (h:ref21_Same p0 p1=some r):Contract Tryz.prog 262 [.agg [iI p0.N,lF 3 (List.map enc_api_Entry p0.Entries)], .agg [iI p1.N,lF 3 (List.map enc_api_Entry p1.Entries)]] [] (.sb r) []:=by
 refine C0 Tryz.func262 Tryz.call262 1 ?_
 delta ref21_Same at h
 refine eN (eN (eN (An (fun g1=> ?_) (fun g1=> ?_))))
 refine eX [iI (p0.Entries.length:Int)] (An (lenS enc_api_Entry p0.Entries) ?_)
 refine eX [iI (p1.Entries.length:Int)] (An (lenS enc_api_Entry p1.Entries) ?_)
 refine An (fun g2=> ?_) (fun g2=> ?_)
 replace h:=cT (oR g1 g2) h
 first|cases h|rw [←oJ h]
 exact eN (r1 trivial)
 replace h:=cF (oR g1 g2) h
 refine eN (eX [iI (p0.Entries.length:Int)] (An (lenS enc_api_Entry p0.Entries) ?_))
 replace h:ref21_Same_l3 p0 p1 (0:Int)=some r:=h
 delta ref21_Same_l3 at h
 obtain ⟨n1,h⟩:=loopS h
 refine eX (Sum.inl ⟨Int×Nat,fun q=> [tM 2 (.ptr 1 0),tM 3 (.ptr 2 0),tM 22 (iI (p0.Entries.length:Int)),tM 23 (iI q.1),tB 1 [iI p0.N,lF 3 (List.map enc_api_Entry p0.Entries)],tB 2 [iI p1.N,lF 3 (List.map enc_api_Entry p1.Entries)]],fun q=>loopN (fun (s:Int)=>ref21_Same_l3s p0 p1 s) q.2 q.1=some r,fun q=>q.2⟩) (An (eX [] (eX [] (eX ((0:Int),n1) (An h (r4 (fr (r1 (fr trivial)))))))) ?_)
 clear h
 refine fun q h=> ?_
 obtain ⟨c,n1⟩:=q
 obtain ⟨m1,x1,hm1,h,hl1,hr1⟩:=loopN_step h
 replace hm1:n1=m1+1:=hm1
 subst hm1
 replace h:ref21_Same_l3s p0 p1 c=some x1:=h
 delta ref21_Same_l3s at h
 refine eN (cD h (fun g3 h=> ?_) (fun g3 h=> ?_))
 refine eN (eN ?_)
 obtain ⟨a,d,h⟩:=bS h
 obtain ⟨b,e,h⟩:=bS h
 refine eX [iI a.V,iI a.Min,iI a.Max] (An (idx_map enc_api_Entry d) ?_)
 refine eX [iI b.V,iI b.Min,iI b.Max] (An (idx_map enc_api_Entry e) ?_)
 refine cD h (fun g4 h=> ?_) (fun g4 h=> ?_)
 cases retS h hr1
 exact eN (r1 trivial)
 exact eN (jT (_,m1) (An (hl1 _ (oJ h).symm) (An (jL m1) (r4 (fr (r1 (fr trivial)))))))
 replace h:=popS h hr1
 first|cases h|rw [←oJ h]
 exact eN (r1 trivial)
 replace h:=cT (oL g1) h
 first|cases h|rw [←oJ h]
 exact eN (r1 trivial)
theorem c_ref22_Same (p0:(List api_Block)) (p1:(List api_Block)) (r:Bool) (h:ref22_Same p0 p1=some r):Contract Tryz.prog 166 [lF 5 (List.map enc_api_Block p0),lF 5 (List.map enc_api_Block p1)] [] (.sb r) []:=by
 refine C0 Tryz.func166 Tryz.call166 1 ?_
 delta ref22_Same at h
 refine eN (eN (eX [iI (p0.length:Int)] (An (lenS enc_api_Block p0) ?_)))
 refine eX [iI (p1.length:Int)] (An (lenS enc_api_Block p1) ?_)
 refine cD h (fun g1 h=> ?_) (fun g1 h=> ?_)
 first|cases h|rw [←oJ h]
 exact eN (r1 trivial)
 refine eN (eX [iI (p0.length:Int)] (An (lenS enc_api_Block p0) ?_))
 replace h:ref22_Same_l3 p0 p1 (0:Int)=some r:=h
 delta ref22_Same_l3 at h
 obtain ⟨n1,h⟩:=loopS h
 refine eX (Sum.inl ⟨Int×Nat,fun q=> [tM 0 (lF 5 (List.map enc_api_Block p0)),tM 1 (lF 5 (List.map enc_api_Block p1)),tM 12 (iI (p0.length:Int)),tM 13 (iI q.1)],fun q=>loopN (fun (s:Int)=>ref22_Same_l3s p0 p1 s) q.2 q.1=some r,fun q=>q.2⟩) (An (eX [] (eX [] (eX ((0:Int),n1) (An h (r1 (fr (fr (r2 trivial)))))))) ?_)
 clear h
 refine fun q h=> ?_
 obtain ⟨c,n1⟩:=q
 obtain ⟨m1,x1,hm1,h,hl1,hr1⟩:=loopN_step h
 replace hm1:n1=m1+1:=hm1
 subst hm1
 replace h:ref22_Same_l3s p0 p1 c=some x1:=h
 delta ref22_Same_l3s at h
 refine eN (cD h (fun g2 h=> ?_) (fun g2 h=> ?_))
 refine eN (eN ?_)
 obtain ⟨t,u,h⟩:=bS h
 obtain ⟨v,w,h⟩:=bS h
 obtain ⟨d,e,h⟩:=bS h
 obtain ⟨f,g,h⟩:=bS h
 obtain ⟨i,j,h⟩:=bS h
 obtain ⟨k,l,h⟩:=bS h
 obtain ⟨a,m,h⟩:=bS h
 obtain ⟨b,n,h⟩:=bS h
 obtain ⟨o,p,h⟩:=bS h
 refine eN (eX (enc_api_Block t) (An (idx_map enc_api_Block u) ?_))
 refine eX (enc_api_Block v) (An (idx_map enc_api_Block w) ?_)
 refine An (fun g3=> ?_) (fun g3=> ?_)
 refine eX (enc_api_Block d) (An (idx_map enc_api_Block (gdT (nE g3) e)) ?_)
 refine eX (enc_api_Block f) (An (idx_map enc_api_Block (gdT (nE g3) g)) ?_)
 refine An (fun g4=> ?_) (fun g4=> ?_)
 refine eX (enc_api_Block i) (An (idx_map enc_api_Block (gdT (nE (oR g3 g4)) j)) ?_)
 refine eX (enc_api_Block k) (An (idx_map enc_api_Block (gdT (nE (oR g3 g4)) l)) ?_)
 refine An (fun g5=> ?_) (fun g5=> ?_)
 refine eX (enc_api_Block a) (An (idx_map enc_api_Block (gdT (nE (oR (oR g3 g4) g5)) m)) ?_)
 refine eX (enc_api_Block b) (An (idx_map enc_api_Block (gdT (nE (oR (oR g3 g4) g5)) n)) ?_)
 refine cK (An (cW (c_ref21_Same a.Ranks b.Ranks o (gdT (nE (oR (oR g3 g4) g5)) p)) (r1 (fr (r1 (fr trivial))))) (r1 ?_))
 refine An (fun g6=> ?_) (fun g6=> ?_)
 replace h:=cT (oR (oR (oR g3 g4) g5) g6) h
 cases retS h hr1
 exact eN (r1 trivial)
 replace h:=cF (oR (oR (oR g3 g4) g5) g6) h
 exact eN (jT (_,m1) (An (hl1 _ (oJ h).symm) (An (jL m1) (r1 (fr (fr (r2 trivial)))))))
 replace h:=cT (oL (oR (oR g3 g4) g5)) h
 cases retS h hr1
 exact eN (r1 trivial)
 replace h:=cT (oL (oL (oR g3 g4))) h
 cases retS h hr1
 exact eN (r1 trivial)
 replace h:=cT (oL (oL (oL g3))) h
 cases retS h hr1
 exact eN (r1 trivial)
 replace h:=popS h hr1
 first|cases h|rw [←oJ h]
 exact eN (r1 trivial)
theorem c_ref23_Same (p0:api_Quantile) (p1:api_Quantile) (r:Bool) (h:ref23_Same p0 p1=some r):Contract Tryz.prog 67 [.agg (enc_api_Quantile p0), .agg (enc_api_Quantile p1)] [] (.sb r) []:=by
 refine C0 Tryz.func67 Tryz.call67 1 ?_
 delta ref23_Same at h
 refine eN (eN ?_)
 obtain ⟨a,b,h⟩:=bS h
 refine eN (An (fun g1=> ?_) (fun g1=> ?_))
 refine An (fun g2=> ?_) (fun g2=> ?_)
 refine An (fun g3=> ?_) (fun g3=> ?_)
 refine An (fun g4=> ?_) (fun g4=> ?_)
 refine cK (An (cW (c_ref22_Same p0.Blocks p1.Blocks a (gdT (aR (aR (aR g1 g2) g3) g4) b)) (fr (fr trivial))) (r1 ?_))
 first|cases h|rw [←oJ h]
 exact (An (Eq.symm (aR (aR (aR (aR g1 g2) g3) g4) rfl)) trivial)
 first|cases h|rw [←oJ h]
 exact (An (Eq.symm (aL (aR (aR (aR g1 g2) g3) g4))) trivial)
 first|cases h|rw [←oJ h]
 exact (An (Eq.symm (aL (aL (aR (aR g1 g2) g3)))) trivial)
 first|cases h|rw [←oJ h]
 exact (An (Eq.symm (aL (aL (aL (aR g1 g2))))) trivial)
 first|cases h|rw [←oJ h]
 exact (An (Eq.symm (aL (aL (aL (aL g1))))) trivial)
theorem c_ref25_Same (p0:api_Synopsis) (p1:api_Synopsis) (r:Bool) (h:ref25_Same p0 p1=some r):Contract Tryz.prog 15 [.agg (enc_api_Synopsis p0), .agg (enc_api_Synopsis p1)] [] (.sb r) []:=by
 refine C0 Tryz.func15 Tryz.call15 1 ?_
 delta ref25_Same at h
 refine eN (eN ?_)
 obtain ⟨a,b,h⟩:=bS h
 obtain ⟨c,d,h⟩:=bS h
 obtain ⟨e,f,h⟩:=bS h
 obtain ⟨g,i,h⟩:=bS h
 obtain ⟨j,k,h⟩:=bS h
 obtain ⟨l,m,h⟩:=bS h
 obtain ⟨n,o,h⟩:=bS h
 obtain ⟨p,q,h⟩:=bS h
 obtain ⟨s,t,h⟩:=bS h
 obtain ⟨u,v,h⟩:=bS h
 obtain ⟨w,x,h⟩:=bS h
 refine eN (An (fun g1=> ?_) (fun g1=> ?_))
 refine cK (An (cW (c_ref09_Same p0.Recent p1.Recent a (gdT g1 b)) (r3 (fr (r3 (fr trivial))))) (r1 ?_))
 refine An (fun g2=> ?_) (fun g2=> ?_)
 refine cK (An (cW (c_ref11_Same p0.Count p1.Count c (gdT (aR g1 g2) d)) (r4 (fr (r4 (fr trivial))))) (r1 ?_))
 refine An (fun g3=> ?_) (fun g3=> ?_)
 refine cK (An (cW (c_ref12_Same p0.Sum p1.Sum e (gdT (aR (aR g1 g2) g3) f)) (r5 (fr (r5 (fr trivial))))) (r1 ?_))
 refine An (fun g4=> ?_) (fun g4=> ?_)
 refine cK (An (cW (c_ref13_Same p0.Smooth p1.Smooth g (gdT (aR (aR (aR g1 g2) g3) g4) i)) (r6 (fr (r6 (fr trivial))))) (r1 ?_))
 refine An (fun g5=> ?_) (fun g5=> ?_)
 refine cK (An (cW (c_ref14_Same p0.Spread p1.Spread j (gdT (aR (aR (aR (aR g1 g2) g3) g4) g5) k)) (r5 (fr (r5 (fr trivial))))) (r1 ?_))
 refine An (fun g6=> ?_) (fun g6=> ?_)
 refine cK (An (cW (c_ref15_Same p0.Poly p1.Poly l (gdT (aR (aR (aR (aR (aR g1 g2) g3) g4) g5) g6) m)) (r3 (fr (r3 (fr trivial))))) (r1 ?_))
 refine An (fun g7=> ?_) (fun g7=> ?_)
 refine cK (An (cW (c_ref16_Same p0.Halve p1.Halve n (gdT (aR (aR (aR (aR (aR (aR g1 g2) g3) g4) g5) g6) g7) o)) (r1 (fr (r1 (fr trivial))))) (r1 ?_))
 refine An (fun g8=> ?_) (fun g8=> ?_)
 refine cK (An (cW (c_ref17_Same p0.Extreme p1.Extreme p (gdT (aR (aR (aR (aR (aR (aR (aR g1 g2) g3) g4) g5) g6) g7) g8) q)) (r4 (fr (r4 (fr trivial))))) (r1 ?_))
 refine An (fun g9=> ?_) (fun g9=> ?_)
 refine cK (An (cW (c_ref19_Same p0.Sample p1.Sample s (gdT (aR (aR (aR (aR (aR (aR (aR (aR g1 g2) g3) g4) g5) g6) g7) g8) g9) t)) (fr (fr trivial))) (r1 ?_))
 refine An (fun g10=> ?_) (fun g10=> ?_)
 refine cK (An (cW (c_ref20_Same p0.Summary p1.Summary u (gdT (aR (aR (aR (aR (aR (aR (aR (aR (aR g1 g2) g3) g4) g5) g6) g7) g8) g9) g10) v)) (r3 (fr (r3 (fr trivial))))) (r1 ?_))
 refine An (fun g11=> ?_) (fun g11=> ?_)
 refine cK (An (cW (c_ref23_Same p0.Quantile p1.Quantile w (gdT (aR (aR (aR (aR (aR (aR (aR (aR (aR (aR g1 g2) g3) g4) g5) g6) g7) g8) g9) g10) g11) x)) (r4 (fr (r4 (fr trivial))))) (r1 ?_))
 first|cases h|rw [←oJ h]
 exact (An (Eq.symm (aR (aR (aR (aR (aR (aR (aR (aR (aR (aR (aR g1 g2) g3) g4) g5) g6) g7) g8) g9) g10) g11) rfl)) trivial)
 first|cases h|rw [←oJ h]
 exact (An (Eq.symm (aL (aR (aR (aR (aR (aR (aR (aR (aR (aR (aR g1 g2) g3) g4) g5) g6) g7) g8) g9) g10) g11))) trivial)
 first|cases h|rw [←oJ h]
 exact (An (Eq.symm (aL (aL (aR (aR (aR (aR (aR (aR (aR (aR (aR g1 g2) g3) g4) g5) g6) g7) g8) g9) g10)))) trivial)
 first|cases h|rw [←oJ h]
 exact (An (Eq.symm (aL (aL (aL (aR (aR (aR (aR (aR (aR (aR (aR g1 g2) g3) g4) g5) g6) g7) g8) g9))))) trivial)
 first|cases h|rw [←oJ h]
 exact (An (Eq.symm (aL (aL (aL (aL (aR (aR (aR (aR (aR (aR (aR g1 g2) g3) g4) g5) g6) g7) g8)))))) trivial)
 first|cases h|rw [←oJ h]
 exact (An (Eq.symm (aL (aL (aL (aL (aL (aR (aR (aR (aR (aR (aR g1 g2) g3) g4) g5) g6) g7))))))) trivial)
 first|cases h|rw [←oJ h]
 exact (An (Eq.symm (aL (aL (aL (aL (aL (aL (aR (aR (aR (aR (aR g1 g2) g3) g4) g5) g6)))))))) trivial)
 first|cases h|rw [←oJ h]
 exact (An (Eq.symm (aL (aL (aL (aL (aL (aL (aL (aR (aR (aR (aR g1 g2) g3) g4) g5))))))))) trivial)
 first|cases h|rw [←oJ h]
 exact (An (Eq.symm (aL (aL (aL (aL (aL (aL (aL (aL (aR (aR (aR g1 g2) g3) g4)))))))))) trivial)
 first|cases h|rw [←oJ h]
 exact (An (Eq.symm (aL (aL (aL (aL (aL (aL (aL (aL (aL (aR (aR g1 g2) g3))))))))))) trivial)
 first|cases h|rw [←oJ h]
 exact (An (Eq.symm (aL (aL (aL (aL (aL (aL (aL (aL (aL (aL (aR g1 g2)))))))))))) trivial)
 first|cases h|rw [←oJ h]
 exact (An (Eq.symm (aL (aL (aL (aL (aL (aL (aL (aL (aL (aL (aL g1)))))))))))) trivial)
theorem c_ref25_Validate (p0:api_Synopsis) (r:Int) (h:ref25_Validate p0=some r):Contract Tryz.prog 46 [.agg (enc_api_Synopsis p0)] [] (iI r) []:=by
 refine C0 Tryz.func46 Tryz.call46 1 ?_
 delta ref25_Validate at h
 refine eN (eN ?_)
 obtain ⟨c,d,h⟩:=bS h
 obtain ⟨a,b,h⟩:=bS h
 refine eN (cK (An (cW (c_ref24_Validate' p0.Config _ rfl) (r8 trivial)) (r1 ?_)))
 refine An (fun g1=> ?_) (fun g1=> ?_)
 refine cK (An (cW (c_ref25_made p0 c (gdT (nE g1) d)) (r8 (r3 (fr (r4 (fr (r5 (fr (r6 (fr (r5 (fr (r3 (fr (r1 (fr (r4 (fr (fr (r3 (fr (r4 (fr trivial))))))))))))))))))))))) (r1 ?_))
 refine An (fun g2=> ?_) (fun g2=> ?_)
 refine cK (An (cW (c_ref25_Alone' p0 _ rfl) (r8 (r3 (fr (r4 (fr (r5 (fr (r6 (fr (r5 (fr (r3 (fr (r1 (fr (r4 (fr (fr (r3 (fr (r4 (fr trivial))))))))))))))))))))))) (r1 ?_))
 refine cK (An (cW (c_ref25_Same p0 (ref25_Alone p0) a (gdT (nE (oR g1 g2)) b)) (r8 (r3 (fr (r4 (fr (r5 (fr (r6 (fr (r5 (fr (r3 (fr (r1 (fr (r4 (fr (fr (r3 (fr (r4 (fr (r8 (r3 (fr (r4 (fr (r5 (fr (r6 (fr (r5 (fr (r3 (fr (r1 (fr (r4 (fr (fr (r3 (fr (r4 (fr trivial))))))))))))))))))))))))))))))))))))))))))))) (r1 ?_))
 refine An (fun g3=> ?_) (fun g3=> ?_)
 replace h:=cT (oR (oR g1 g2) g3) h
 first|cases h|rw [←oJ h]
 exact eN (r1 trivial)
 replace h:=cF (oR (oR g1 g2) g3) h
 first|cases h|rw [←oJ h]
 exact eN (r1 trivial)
 replace h:=cT (oL (oR g1 g2)) h
 first|cases h|rw [←oJ h]
 exact eN (r1 trivial)
 replace h:=cT (oL (oL g1)) h
 first|cases h|rw [←oJ h]
 exact eN (r1 trivial)
theorem c_ref06_Back' (p0:Int) (p1:Int) (r:Int) (h:ref06_Back p0 p1=r):Contract Tryz.prog 146 [iI p0,iI p1] [] (iI r) []:=by
 refine C0 Tryz.func146 Tryz.call146 1 ?_
 delta ref06_Back at h
 refine eN (eN (eN (An (fun g1=> ?_) (fun g1=> ?_))))
 refine An (fun g2=> ?_) (fun g2=> ?_)
 replace h:=cT (oR g1 g2) h
 cases h
 exact eN (r1 trivial)
 replace h:=cF (oR g1 g2) h
 cases h
 exact eN (r1 trivial)
 replace h:=cT (oL g1) h
 cases h
 exact eN (r1 trivial)
theorem c_ref08_Live (p0:(List api_Item)) (p1:Int) (p2:Int) (r:(List api_Item)) (h:ref08_Live p0 p1 p2=some r):Contract Tryz.prog 147 [lF 2 (List.map enc_api_Item p0),iI p1,iI p2] [] (lF 2 (List.map enc_api_Item r)) []:=by
 refine C0 Tryz.func147 Tryz.call147 1 ?_
 delta ref08_Live at h
 refine eN (eN ?_)
 obtain ⟨d,e,h⟩:=bS h
 refine eN (cK (An (cW (c_ref08_Valid p0 p1 d e) (fr (r1 trivial))) (r1 ?_)))
 refine An (fun g1=> ?_) (fun g1=> ?_)
 refine cK (An (cW (c_ref06_Window' p2 _ rfl) (r1 trivial)) (r1 ?_))
 refine An (fun g2=> ?_) (fun g2=> ?_)
 replace h:=cT (oR g1 g2) h
 first|cases h|rw [←oJ h]
 exact eN (r1 trivial)
 replace h:=cF (oR g1 g2) h
 refine eN (eN (eX [iI (p0.length:Int)] (An (lenS enc_api_Item p0) ?_)))
 replace h:ref08_Live_l3 p0 p1 p2 ([]:List api_Item) (0:Int)=some r:=h
 delta ref08_Live_l3 at h
 obtain ⟨n1,h⟩:=loopS h
 refine eX (Sum.inl ⟨((List api_Item)×Int)×Nat,fun q=> [tM 1 (iI p1),tM 2 (iI p2),tM 7 (.own 1024),tM 19 (lF 2 (List.map enc_api_Item p0)),tM 20 (iI (p0.length:Int)),tM 21 (iI q.1.2),(.tok 1024, .tok 186 2 (List.map enc_api_Item q.1.1))],fun q=>loopN (fun (s:((List api_Item)×Int))=>ref08_Live_l3s p0 p1 p2 s.1 s.2) q.2 q.1=some r,fun q=>q.2⟩) (An (eX [(1024,none)] (eX [] (eX ((([]:List api_Item),(0:Int)),n1) (An h (r3 (fr (r3 trivial))))))) ?_)
 clear h
 refine fun q h=> ?_
 obtain ⟨⟨c,b⟩,n1⟩:=q
 obtain ⟨m1,x1,hm1,h,hl1,hr1⟩:=loopN_step h
 replace hm1:n1=m1+1:=hm1
 subst hm1
 replace h:ref08_Live_l3s p0 p1 p2 c b=some x1:=h
 delta ref08_Live_l3s at h
 refine eN (cD h (fun g3 h=> ?_) (fun g3 h=> ?_))
 refine eN (eN ?_)
 obtain ⟨a,f,h⟩:=bS h
 refine eX [iI a.T,iI a.V] (An (idx_map enc_api_Item f) ?_)
 refine eN (cK (An (cW (c_ref06_Live' p1 p2 a.T _ rfl) (r3 trivial)) (r1 ?_)))
 refine eN (cD h (fun g4 h=> ?_) (fun g4 h=> ?_))
 refine eN ?_
 obtain ⟨g,h⟩:=ckS h
 refine An (kA (oD g)) ?_
 exact eN (eX [(1024,some 1796)] (eX [] (eX (((c++ [a]),(w64 (b+(1:Int)))),m1) (An (hl1 ((c++ [a]),(w64 (b+(1:Int)))) (oJ h).symm) (An (Nat.lt_succ_self m1) (r3 (fr (r2 (An lE trivial)))))))))
 exact eN (jT (_,m1) (An (hl1 _ (oJ h).symm) (An (jL m1) (r3 (fr (r3 trivial))))))
 replace h:=popS h hr1
 first|cases h|rw [←oJ h]
 exact eN (fr trivial)
 replace h:=cT (oL g1) h
 first|cases h|rw [←oJ h]
 exact eN (r1 trivial)
theorem c_ref09_Advance (p0:api_Recent) (p1:Int) (r:(api_Recent×Int)) (h:ref09_Advance p0 p1=some r):Contract Tryz.prog 47 [.agg (enc_api_Recent p0),iI p1] [] (.tup [.agg (enc_api_Recent r.1),iI r.2]) []:=by
 refine C0 Tryz.func47 Tryz.call47 1 ?_
 delta ref09_Advance at h
 refine eN (eN ?_)
 obtain ⟨c,d,h⟩:=bS h
 refine cK (An (cW (c_ref09_Validate p0 c d) (r3 (fr trivial))) (r1 ?_))
 refine eN (cD h (fun g1 h=> ?_) (fun g1 h=> ?_))
 first|cases h|rw [←oJ h]
 exact eN (r5 trivial)
 refine eN (cK (An (cW (c_ref06_Back' p0.Now p1 _ rfl) (r2 trivial)) (r1 ?_)))
 refine eN (cD h (fun g2 h=> ?_) (fun g2 h=> ?_))
 first|cases h|rw [←oJ h]
 exact eN (r5 trivial)
 refine eN ?_
 obtain ⟨a,b,h⟩:=bS h
 refine cK (An (cW (c_ref08_Live p0.Items p1 p0.W a b) (fr (r2 trivial))) (r1 ?_))
 first|cases h|rw [←oJ h]
 exact (r3 (fr (r1 trivial)))
theorem c_ref06_First' (p0:Int) (p1:Int) (r:Int) (h:ref06_First p0 p1=r):Contract Tryz.prog 150 [iI p0,iI p1] [] (iI r) []:=by
 refine C0 Tryz.func150 Tryz.call150 1 ?_
 delta ref06_First at h
 refine eN (eN (eN (cK (An (cW (c_ref06_Tick' p0 _ rfl) (r1 trivial)) (r1 ?_)))))
 refine An (fun g1=> ?_) (fun g1=> ?_)
 refine cK (An (cW (c_ref06_Window' p1 _ rfl) (r1 trivial)) (r1 ?_))
 refine An (fun g2=> ?_) (fun g2=> ?_)
 replace h:=cT (oR g1 g2) h
 cases h
 exact eN (r1 trivial)
 replace h:=cF (oR g1 g2) h
 cases h
 exact eN (r1 trivial)
 replace h:=cT (oL g1) h
 cases h
 exact eN (r1 trivial)
theorem c_ref10_Expire (p0:(List api_Bucket)) (p1:Int) (r:(List api_Bucket)) (h:ref10_Expire p0 p1=some r):Contract Tryz.prog 149 [lF 2 (List.map enc_api_Bucket p0),iI p1] [] (lF 2 (List.map enc_api_Bucket r)) []:=by
 refine C0 Tryz.func149 Tryz.call149 1 ?_
 delta ref10_Expire at h
 refine eN ?_
 replace h:ref10_Expire_l2 p1 p0=some r:=h
 delta ref10_Expire_l2 at h
 obtain ⟨n1,h⟩:=loopS h
 refine eX (Sum.inl ⟨(List api_Bucket)×Nat,fun q=> [tM 0 (lF 2 (List.map enc_api_Bucket q.1)),tM 1 (iI p1)],fun q=>loopN (fun (s:(List api_Bucket))=>ref10_Expire_l2s p1 s) q.2 q.1=some r,fun q=>q.2⟩) (An (eX [] (eX [] (eX (p0,n1) (An h (r1 (fr (r1 trivial))))))) ?_)
 clear h
 refine fun q h=> ?_
 obtain ⟨a,n1⟩:=q
 obtain ⟨m1,x1,hm1,h,hl1,hr1⟩:=loopN_step h
 replace hm1:n1=m1+1:=hm1
 subst hm1
 replace h:ref10_Expire_l2s p1 a=some x1:=h
 delta ref10_Expire_l2s at h
 refine eN ?_
 obtain ⟨b,c,h⟩:=bS h
 refine eX (some (⟨Unit,fun _=> [tM 0 (lF 2 (List.map enc_api_Bucket a)),tM 1 (iI p1),tM 15 (.sb ((decide ((a.length:Int)>(0:Int)))&&(decide (b.T<p1))))],fun _=>True,fun _=>0⟩,1000000)) (An ?_ (fun _ _=> ?_))
 refine eX [iI (a.length:Int)] (An (lenS enc_api_Bucket a) ?_)
 refine An (fun g1=> ?_) (fun g1=> ?_)
 refine eX [iI b.T,iI b.Level] (An (idx_map enc_api_Bucket (gdT g1 c)) ?_)
 exact jU (An trivial (r1 (fr (r1 (An (Eq.symm (aR g1 rfl)) trivial)))))
 exact jU (An trivial (r1 (fr (r1 (An (Eq.symm (aL g1)) trivial)))))
 refine cD h (fun g2 h=> ?_) (fun g2 h=> ?_)
 refine eN ?_
 obtain ⟨d,h⟩:=ckS h
 refine An (kA (oD d)) ?_
 exact jT (_,m1) (An (hl1 _ (oJ h).symm) (An (jL m1) (r1 (An ff (An lE (r1 trivial))))))
 replace h:=popS h hr1
 first|cases h|rw [←oJ h]
 exact eN (fr trivial)
theorem c_ref11_Advance (p0:api_Count) (p1:Int) (r:(api_Count×Int)) (h:ref11_Advance p0 p1=some r):Contract Tryz.prog 48 [.agg (enc_api_Count p0),iI p1] [] (.tup [.agg (enc_api_Count r.1),iI r.2]) []:=by
 refine C0 Tryz.func48 Tryz.call48 1 ?_
 delta ref11_Advance at h
 refine eN (eN ?_)
 obtain ⟨a,b,h⟩:=bS h
 refine cK (An (cW (c_ref11_Validate p0 a b) (r4 (fr trivial))) (r1 ?_))
 refine eN (cD h (fun g1 h=> ?_) (fun g1 h=> ?_))
 first|cases h|rw [←oJ h]
 exact eN (r6 trivial)
 refine eN (cK (An (cW (c_ref06_Back' p0.Now p1 _ rfl) (r2 trivial)) (r1 ?_)))
 refine eN (cD h (fun g2 h=> ?_) (fun g2 h=> ?_))
 first|cases h|rw [←oJ h]
 exact eN (r6 trivial)
 refine eN ?_
 obtain ⟨c,d,h⟩:=bS h
 refine cK (An (cW (c_ref06_First' p1 p0.W _ rfl) (r2 trivial)) (r1 ?_))
 refine cK (An (cW (c_ref10_Expire p0.Buckets (ref06_First p1 p0.W) c d) (fr (r1 trivial))) (r1 ?_))
 first|cases h|rw [←oJ h]
 exact eN (r4 (fr (r1 trivial)))
theorem c_ref12_Advance (p0:api_Sum) (p1:Int) (r:(api_Sum×Int)) (h:ref12_Advance p0 p1=some r):Contract Tryz.prog 49 [.agg (enc_api_Sum p0),iI p1] [] (.tup [.agg (enc_api_Sum r.1),iI r.2]) []:=by
 refine C0 Tryz.func49 Tryz.call49 1 ?_
 delta ref12_Advance at h
 refine eN (eN ?_)
 obtain ⟨a,b,h⟩:=bS h
 refine cK (An (cW (c_ref12_Validate p0 a b) (r5 (fr trivial))) (r1 ?_))
 refine eN (cD h (fun g1 h=> ?_) (fun g1 h=> ?_))
 first|cases h|rw [←oJ h]
 exact eN (r7 trivial)
 refine eN (cK (An (cW (c_ref06_Back' p0.Now p1 _ rfl) (r2 trivial)) (r1 ?_)))
 refine eN (cD h (fun g2 h=> ?_) (fun g2 h=> ?_))
 first|cases h|rw [←oJ h]
 exact eN (r7 trivial)
 refine eN ?_
 obtain ⟨c,d,h⟩:=bS h
 refine cK (An (cW (c_ref06_First' p1 p0.W _ rfl) (r2 trivial)) (r1 ?_))
 refine cK (An (cW (c_ref10_Expire p0.Buckets (ref06_First p1 p0.W) c d) (fr (r1 trivial))) (r1 ?_))
 first|cases h|rw [←oJ h]
 exact eN (r5 (fr (r1 trivial)))
theorem c_ref13_Drop (p0:(List api_Mark)) (p1:Int) (p2:Int) (r:(List api_Mark)) (h:ref13_Drop p0 p1 p2=some r):Contract Tryz.prog 153 [lF 7 (List.map enc_api_Mark p0),iI p1,iI p2] [] (lF 7 (List.map enc_api_Mark r)) []:=by
 refine C0 Tryz.func153 Tryz.call153 1 ?_
 delta ref13_Drop at h
 refine eN ?_
 replace h:ref13_Drop_l2 p1 p2 p0=some r:=h
 delta ref13_Drop_l2 at h
 obtain ⟨n1,h⟩:=loopS h
 refine eX (Sum.inl ⟨(List api_Mark)×Nat,fun q=> [tM 0 (lF 7 (List.map enc_api_Mark q.1)),tM 1 (iI p1),tM 2 (iI p2)],fun q=>loopN (fun (s:(List api_Mark))=>ref13_Drop_l2s p1 p2 s) q.2 q.1=some r,fun q=>q.2⟩) (An (eX [] (eX [] (eX (p0,n1) (An h (r1 (fr (r2 trivial))))))) ?_)
 clear h
 refine fun q h=> ?_
 obtain ⟨a,n1⟩:=q
 obtain ⟨m1,x1,hm1,h,hl1,hr1⟩:=loopN_step h
 replace hm1:n1=m1+1:=hm1
 subst hm1
 replace h:ref13_Drop_l2s p1 p2 a=some x1:=h
 delta ref13_Drop_l2s at h
 refine eN ?_
 obtain ⟨b,d,h⟩:=bS h
 refine eX (some (⟨Unit,fun _=> [tM 0 (lF 7 (List.map enc_api_Mark a)),tM 1 (iI p1),tM 2 (iI p2),tM 19 (.sb ((decide ((a.length:Int)>(1:Int)))&&(!(ref06_Live p1 p2 b.T))))],fun _=>True,fun _=>0⟩,1000000)) (An ?_ (fun _ _=> ?_))
 refine eX [iI (a.length:Int)] (An (lenS enc_api_Mark a) ?_)
 refine An (fun g1=> ?_) (fun g1=> ?_)
 refine eX (enc_api_Mark b) (An (idx_map enc_api_Mark (gdT g1 d)) ?_)
 refine cK (An (cW (c_ref06_Live' p1 p2 b.T _ rfl) (r3 trivial)) (r1 ?_))
 exact jU (An trivial (r1 (fr (r2 (An (Eq.symm (aR g1 rfl)) trivial)))))
 exact jU (An trivial (r1 (fr (r2 (An (Eq.symm (aL g1)) trivial)))))
 refine cD h (fun g2 h=> ?_) (fun g2 h=> ?_)
 refine eN ?_
 obtain ⟨e,h⟩:=ckS h
 refine An (kA (oD e)) ?_
 exact jT (_,m1) (An (hl1 _ (oJ h).symm) (An (jL m1) (r1 (An ff (An lE (r2 trivial))))))
 replace h:=popS h hr1
 refine eN ?_
 obtain ⟨c,f,h⟩:=bS h
 refine eX (some (⟨Unit,fun _=> [tM 0 (lF 7 (List.map enc_api_Mark a)),tM 34 (.sb (((a.length:Int)==(1:Int))&&(!(ref06_Live p1 p2 c.T))))],fun _=>True,fun _=>0⟩,2000000)) (An ?_ (fun _ _=> ?_))
 refine eX [iI (a.length:Int)] (An (lenS enc_api_Mark a) ?_)
 refine An (fun g3=> ?_) (fun g3=> ?_)
 refine eX (enc_api_Mark c) (An (idx_map enc_api_Mark (gdT g3 f)) ?_)
 refine cK (An (cW (c_ref06_Live' p1 p2 c.T _ rfl) (r3 trivial)) (r1 ?_))
 exact jU (An trivial (r1 (fr (An (Eq.symm (aR g3 rfl)) trivial))))
 exact jU (An trivial (r1 (fr (An (Eq.symm (aL g3)) trivial))))
 refine cD h (fun g4 h=> ?_) (fun g4 h=> ?_)
 first|cases h|rw [←oJ h]
 exact eN (r1 trivial)
 first|cases h|rw [←oJ h]
 exact eN (fr trivial)
theorem c_ref13_Advance (p0:api_Smooth) (p1:Int) (r:(api_Smooth×Int)) (h:ref13_Advance p0 p1=some r):Contract Tryz.prog 50 [.agg (enc_api_Smooth p0),iI p1] [] (.tup [.agg (enc_api_Smooth r.1),iI r.2]) []:=by
 refine C0 Tryz.func50 Tryz.call50 1 ?_
 delta ref13_Advance at h
 refine eN (eN ?_)
 obtain ⟨a,b,h⟩:=bS h
 refine cK (An (cW (c_ref13_Validate p0 a b) (r6 (fr trivial))) (r1 ?_))
 refine eN (cD h (fun g1 h=> ?_) (fun g1 h=> ?_))
 first|cases h|rw [←oJ h]
 exact eN (r8 trivial)
 refine eN (cK (An (cW (c_ref06_Back' p0.Now p1 _ rfl) (r2 trivial)) (r1 ?_)))
 refine eN (cD h (fun g2 h=> ?_) (fun g2 h=> ?_))
 first|cases h|rw [←oJ h]
 exact eN (r8 trivial)
 refine eN ?_
 obtain ⟨c,d,h⟩:=bS h
 refine cK (An (cW (c_ref13_Drop p0.Marks p1 p0.W c d) (fr (r2 trivial))) (r1 ?_))
 first|cases h|rw [←oJ h]
 exact eN (r6 (fr (r1 trivial)))
theorem c_ref14_Advance (p0:api_Spread) (p1:Int) (r:(api_Spread×Int)) (h:ref14_Advance p0 p1=some r):Contract Tryz.prog 51 [.agg (enc_api_Spread p0),iI p1] [] (.tup [.agg (enc_api_Spread r.1),iI r.2]) []:=by
 refine C0 Tryz.func51 Tryz.call51 1 ?_
 delta ref14_Advance at h
 refine eN (eN ?_)
 obtain ⟨a,b,h⟩:=bS h
 refine cK (An (cW (c_ref14_Validate p0 a b) (r5 (fr trivial))) (r1 ?_))
 refine eN (cD h (fun g1 h=> ?_) (fun g1 h=> ?_))
 first|cases h|rw [←oJ h]
 exact eN (r7 trivial)
 refine eN (cK (An (cW (c_ref06_Back' p0.Now p1 _ rfl) (r2 trivial)) (r1 ?_)))
 refine eN (cD h (fun g2 h=> ?_) (fun g2 h=> ?_))
 first|cases h|rw [←oJ h]
 exact eN (r7 trivial)
 refine eN ?_
 obtain ⟨c,d,h⟩:=bS h
 refine cK (An (cW (c_ref13_Drop p0.Marks p1 p0.W c d) (fr (r2 trivial))) (r1 ?_))
 first|cases h|rw [←oJ h]
 exact eN (r5 (fr (r1 trivial)))
theorem c_ref15_Advance (p0:api_Poly) (p1:Int) (r:(api_Poly×Int)) (h:ref15_Advance p0 p1=some r):Contract Tryz.prog 52 [.agg (enc_api_Poly p0),iI p1] [] (.tup [.agg (enc_api_Poly r.1),iI r.2]) []:=by
 refine C0 Tryz.func52 Tryz.call52 1 ?_
 delta ref15_Advance at h
 refine eN (eN ?_)
 obtain ⟨a,b,h⟩:=bS h
 refine cK (An (cW (c_ref15_Validate p0 a b) (r3 (fr trivial))) (r1 ?_))
 refine eN (cD h (fun g1 h=> ?_) (fun g1 h=> ?_))
 first|cases h|rw [←oJ h]
 exact eN (r5 trivial)
 refine eN (cK (An (cW (c_ref06_Back' p0.Now p1 _ rfl) (r2 trivial)) (r1 ?_)))
 refine eN (cD h (fun g2 h=> ?_) (fun g2 h=> ?_))
 first|cases h|rw [←oJ h]
 exact eN (r5 trivial)
 first|cases h|rw [←oJ h]
 exact eN (eN (r3 (fr (r1 trivial))))
theorem c_ref16_Advance (p0:api_Halve) (p1:Int) (r:(api_Halve×Int)) (h:ref16_Advance p0 p1=some r):Contract Tryz.prog 53 [.agg [iI p0.Now,lF 1 (List.map (eI .i64) p0.Sums)],iI p1] [] (.tup [.agg [iI r.1.Now,lF 1 (List.map (eI .i64) r.1.Sums)],iI r.2]) []:=by
 refine C0 Tryz.func53 Tryz.call53 1 ?_
 delta ref16_Advance at h
 refine eN (eN ?_)
 obtain ⟨i,j,h⟩:=bS h
 refine cK (An (cW (c_ref16_Validate p0 i j) (r1 (fr trivial))) (r1 ?_))
 refine eN (cD h (fun g1 h=> ?_) (fun g1 h=> ?_))
 first|cases h|rw [←oJ h]
 exact eN (r3 trivial)
 refine eN (cK (An (cW (c_ref06_Back' p0.Now p1 _ rfl) (r2 trivial)) (r1 ?_)))
 refine eN (cD h (fun g2 h=> ?_) (fun g2 h=> ?_))
 first|cases h|rw [←oJ h]
 exact eN (r3 trivial)
 refine eN ?_
 obtain ⟨k,h⟩:=ckS h
 refine eX [iI (p0.Sums.length:Int)] (An (lenS (eI .i64) p0.Sums) ?_)
 refine An (oD k) ?_
 refine eN (eX [iI (p0.Sums.length:Int)] (An (lenS (eI .i64) p0.Sums) ?_))
 replace h:ref16_Advance_l4 p0 p1 (List.replicate ((p0.Sums.length:Int)).toNat (0:Int)) (0:Int)=some r:=h
 delta ref16_Advance_l4 at h
 obtain ⟨n1,h⟩:=loopS h
 refine eX (Sum.inl ⟨((List Int)×Int)×Nat,fun q=> [tM 1 (iI p1),tM 2 (.ptr 1 0),tM 4 (.ptr 2 0),tM 8 (.own 1284),tM 31 (lF 1 (List.map (eI .i64) p0.Sums)),tM 32 (iI (p0.Sums.length:Int)),tM 33 (iI q.1.2),tB 1 [iI p0.Now,lF 1 (List.map (eI .i64) p0.Sums)],tB 2 [iI (0:Int), .nilS],(.tok 1284, .tok 2 1 (List.map (eI .i64) q.1.1))],fun q=>loopN (fun (s:((List Int)×Int))=>ref16_Advance_l4s p0 p1 s.1 s.2) q.2 q.1=some r,fun q=>q.2⟩) (An (eX [] (eX [] (eX (((List.replicate ((p0.Sums.length:Int)).toNat (0:Int)),(0:Int)),n1) (An h (r2 (fr (r3 (fr (r1 (An lE trivial)))))))))) ?_)
 clear h
 refine fun q h=> ?_
 obtain ⟨⟨a,b⟩,n1⟩:=q
 obtain ⟨m1,x1,hm1,h,hl1,hr1⟩:=loopN_step h
 replace hm1:n1=m1+1:=hm1
 subst hm1
 replace h:ref16_Advance_l4s p0 p1 a b=some x1:=h
 delta ref16_Advance_l4s at h
 refine eN (cD h (fun g3 h=> ?_) (fun g3 h=> ?_))
 refine eN (eN ?_)
 obtain ⟨c,d,h⟩:=bS h
 refine eX [iI c] (An (idx_map (eI .i64) d) ?_)
 refine eN (eN (eX [iI (a.length:Int)] (An (lenS (eI .i64) a) ?_)))
 refine eN (cD h (fun g4 h=> ?_) (fun g4 h=> ?_))
 refine eN ?_
 obtain ⟨l,e,h⟩:=bS h
 obtain ⟨f,g,h⟩:=bS h
 refine An (idx_lt (eI .i64) e) ?_
 refine eX [iI f] (An (idx_elt (eI .i64) g) ?_)
 exact eN (jT (_,m1) (An (hl1 _ (oJ h).symm) (An (jL m1) (r2 (fr (r3 (fr (r1 (An lE trivial)))))))))
 exact eN (jT (_,m1) (An (hl1 _ (oJ h).symm) (An (jL m1) (r2 (fr (r3 (fr (r2 trivial))))))))
 replace h:=popS h hr1
 first|cases h|rw [←oJ h]
 exact eN (r1 (fr (r1 trivial)))
theorem c_ref17_Advance (p0:api_Extreme) (p1:Int) (r:(api_Extreme×Int)) (h:ref17_Advance p0 p1=some r):Contract Tryz.prog 54 [.agg (enc_api_Extreme p0),iI p1] [] (.tup [.agg (enc_api_Extreme r.1),iI r.2]) []:=by
 refine C0 Tryz.func54 Tryz.call54 1 ?_
 delta ref17_Advance at h
 refine eN (eN ?_)
 obtain ⟨a,b,h⟩:=bS h
 refine cK (An (cW (c_ref17_Validate p0 a b) (r4 (fr trivial))) (r1 ?_))
 refine eN (cD h (fun g1 h=> ?_) (fun g1 h=> ?_))
 first|cases h|rw [←oJ h]
 exact eN (r6 trivial)
 refine eN (cK (An (cW (c_ref06_Back' p0.Now p1 _ rfl) (r2 trivial)) (r1 ?_)))
 refine eN (cD h (fun g2 h=> ?_) (fun g2 h=> ?_))
 first|cases h|rw [←oJ h]
 exact eN (r6 trivial)
 refine eN ?_
 obtain ⟨c,d,h⟩:=bS h
 refine cK (An (cW (c_ref08_Live p0.Items p1 p0.W c d) (fr (r2 trivial))) (r1 ?_))
 first|cases h|rw [←oJ h]
 exact eN (r4 (fr (r1 trivial)))
theorem c_ref22_Expire (p0:(List api_Block)) (p1:Int) (r:(List api_Block)) (h:ref22_Expire p0 p1=some r):Contract Tryz.prog 159 [lF 5 (List.map enc_api_Block p0),iI p1] [] (lF 5 (List.map enc_api_Block r)) []:=by
 refine C0 Tryz.func159 Tryz.call159 1 ?_
 delta ref22_Expire at h
 refine eN ?_
 replace h:ref22_Expire_l2 p1 p0=some r:=h
 delta ref22_Expire_l2 at h
 obtain ⟨n1,h⟩:=loopS h
 refine eX (Sum.inl ⟨(List api_Block)×Nat,fun q=> [tM 0 (lF 5 (List.map enc_api_Block q.1)),tM 1 (iI p1)],fun q=>loopN (fun (s:(List api_Block))=>ref22_Expire_l2s p1 s) q.2 q.1=some r,fun q=>q.2⟩) (An (eX [] (eX [] (eX (p0,n1) (An h (r1 (fr (r1 trivial))))))) ?_)
 clear h
 refine fun q h=> ?_
 obtain ⟨a,n1⟩:=q
 obtain ⟨m1,x1,hm1,h,hl1,hr1⟩:=loopN_step h
 replace hm1:n1=m1+1:=hm1
 subst hm1
 replace h:ref22_Expire_l2s p1 a=some x1:=h
 delta ref22_Expire_l2s at h
 refine eN ?_
 obtain ⟨b,c,h⟩:=bS h
 refine eX (some (⟨Unit,fun _=> [tM 0 (lF 5 (List.map enc_api_Block a)),tM 1 (iI p1),tM 15 (.sb ((decide ((a.length:Int)>(0:Int)))&&(decide (b.T<p1))))],fun _=>True,fun _=>0⟩,1000000)) (An ?_ (fun _ _=> ?_))
 refine eX [iI (a.length:Int)] (An (lenS enc_api_Block a) ?_)
 refine An (fun g1=> ?_) (fun g1=> ?_)
 refine eX (enc_api_Block b) (An (idx_map enc_api_Block (gdT g1 c)) ?_)
 exact jU (An trivial (r1 (fr (r1 (An (Eq.symm (aR g1 rfl)) trivial)))))
 exact jU (An trivial (r1 (fr (r1 (An (Eq.symm (aL g1)) trivial)))))
 refine cD h (fun g2 h=> ?_) (fun g2 h=> ?_)
 refine eN ?_
 obtain ⟨d,h⟩:=ckS h
 refine An (kA (oD d)) ?_
 exact jT (_,m1) (An (hl1 _ (oJ h).symm) (An (jL m1) (r1 (An ff (An lE (r1 trivial))))))
 replace h:=popS h hr1
 first|cases h|rw [←oJ h]
 exact eN (fr trivial)
theorem c_ref23_Advance (p0:api_Quantile) (p1:Int) (r:(api_Quantile×Int)) (h:ref23_Advance p0 p1=some r):Contract Tryz.prog 55 [.agg (enc_api_Quantile p0),iI p1] [] (.tup [.agg (enc_api_Quantile r.1),iI r.2]) []:=by
 refine C0 Tryz.func55 Tryz.call55 1 ?_
 delta ref23_Advance at h
 refine eN (eN ?_)
 obtain ⟨a,b,h⟩:=bS h
 refine cK (An (cW (c_ref23_Validate p0 a b) (r4 (fr trivial))) (r1 ?_))
 refine eN (cD h (fun g1 h=> ?_) (fun g1 h=> ?_))
 first|cases h|rw [←oJ h]
 exact eN (r6 trivial)
 refine eN (cK (An (cW (c_ref06_Back' p0.Now p1 _ rfl) (r2 trivial)) (r1 ?_)))
 refine eN (cD h (fun g2 h=> ?_) (fun g2 h=> ?_))
 first|cases h|rw [←oJ h]
 exact eN (r6 trivial)
 refine eN ?_
 obtain ⟨c,d,h⟩:=bS h
 refine cK (An (cW (c_ref06_First' p1 p0.W _ rfl) (r2 trivial)) (r1 ?_))
 refine cK (An (cW (c_ref22_Expire p0.Blocks (ref06_First p1 p0.W) c d) (fr (r1 trivial))) (r1 ?_))
 first|cases h|rw [←oJ h]
 exact eN (r4 (fr (r1 trivial)))
theorem c_ref25_Advance (p0:api_Synopsis) (p1:Int) (r:(api_Synopsis×Int)) (h:ref25_Advance p0 p1=some r):Contract Tryz.prog 14 [.agg (enc_api_Synopsis p0),iI p1] [] (.tup [.agg (enc_api_Synopsis r.1),iI r.2]) []:=by
 refine C0 Tryz.func14 Tryz.call14 1 ?_
 delta ref25_Advance at h
 refine eN (eN ?_)
 obtain ⟨E,F,h⟩:=bS h
 refine cK (An (cW (c_ref25_Validate p0 E F) (r8 (r3 (fr (r4 (fr (r5 (fr (r6 (fr (r5 (fr (r3 (fr (r1 (fr (r4 (fr (fr (r3 (fr (r4 (fr trivial))))))))))))))))))))))) (r1 ?_))
 refine eN (cD h (fun g1 h=> ?_) (fun g1 h=> ?_))
 first|cases h|rw [←oJ h]
 exact eN (r48 (r8 (r2 trivial)))
 refine eN (eN (eN (eN (eX (some (⟨Int×api_Recent×api_Count×api_Sum×api_Smooth×api_Spread×api_Poly×Int×(List Int)×api_Extreme×api_Quantile,fun q=> [tM 2 (.ptr 1 0),tM 4 (.ptr 2 0),tM 7 (iI q.1),tB 1 (List.append (enc_api_Config p0.Config) (List.append (enc_api_Recent q.2.1) (List.append (enc_api_Count q.2.2.1) (List.append (enc_api_Sum q.2.2.2.1) (List.append (enc_api_Smooth q.2.2.2.2.1) (List.append (enc_api_Spread q.2.2.2.2.2.1) (List.append (enc_api_Poly q.2.2.2.2.2.2.1) (iI q.2.2.2.2.2.2.2.1::(lF 1 (List.map (eI .i64) q.2.2.2.2.2.2.2.2.1)::(List.append (enc_api_Extreme q.2.2.2.2.2.2.2.2.2.1) (lF 5 (List.map enc_api_Chain p0.Sample.Chains)::(List.append (enc_api_Summary p0.Summary) (enc_api_Quantile q.2.2.2.2.2.2.2.2.2.2))))))))))))),tB 2 [iI (0:Int),iI (0:Int),iI (0:Int),iI (0:Int),iI (0:Int),iI (0:Int),iI (0:Int),iI (0:Int),iI (0:Int),iI (0:Int),iI (0:Int), .nilS,iI (0:Int),iI (0:Int),iI (0:Int),iI (0:Int), .nilS,iI (0:Int),iI (0:Int),iI (0:Int),iI (0:Int),iI (0:Int), .nilS,iI (0:Int),iI (0:Int),iI (0:Int),iI (0:Int),iI (0:Int),iI (0:Int), .nilS,iI (0:Int),iI (0:Int),iI (0:Int),iI (0:Int),iI (0:Int), .nilS,iI (0:Int),iI (0:Int),iI (0:Int), .nilS,iI (0:Int), .nilS, .bool false,iI (0:Int),iI (0:Int),iI (0:Int), .nilS, .nilS,iI (0:Int),iI (0:Int),iI (0:Int), .nilS,iI (0:Int),iI (0:Int),iI (0:Int),iI (0:Int), .nilS]],fun q=>ref25_Advance_j3 p0 q.1 q.2.1 q.2.2.1 q.2.2.2.1 q.2.2.2.2.1 q.2.2.2.2.2.1 q.2.2.2.2.2.2.1 q.2.2.2.2.2.2.2.1 q.2.2.2.2.2.2.2.2.1 q.2.2.2.2.2.2.2.2.2.1 q.2.2.2.2.2.2.2.2.2.2=some r,fun _=>0⟩,1000000)) (An ?_ ?_)))))
 refine cD h (fun g2 h=> ?_) (fun g2 h=> ?_)
 refine eN ?_
 obtain ⟨v,G,h⟩:=bS h
 refine cK (An (cW (c_ref09_Advance p0.Recent p1 v G) (r3 (fr (r1 trivial)))) (r1 ?_))
 exact jT (v.2,v.1,p0.Count,p0.Sum,p0.Smooth,p0.Spread,p0.Poly,p0.Halve.Now,p0.Halve.Sums,p0.Extreme,p0.Quantile) (An h (r12 (r1 (fr (r4 (fr (r5 (fr (r6 (fr (r5 (fr (r3 (fr (r1 (fr (r4 (fr (fr (r3 (fr (r4 (fr (r32 (r12 (r2 trivial))))))))))))))))))))))))))
 refine eN (eN (cD h (fun g3 h=> ?_) (fun g3 h=> ?_)))
 refine eN ?_
 obtain ⟨j,w,h⟩:=bS h
 refine cK (An (cW (c_ref11_Advance p0.Count p1 j w) (r4 (fr (r1 trivial)))) (r1 ?_))
 exact jT (j.2,p0.Recent,j.1,p0.Sum,p0.Smooth,p0.Spread,p0.Poly,p0.Halve.Now,p0.Halve.Sums,p0.Extreme,p0.Quantile) (An h (r12 (r1 (fr (r4 (fr (r5 (fr (r6 (fr (r5 (fr (r3 (fr (r1 (fr (r4 (fr (fr (r3 (fr (r4 (fr (r32 (r12 (r2 trivial))))))))))))))))))))))))))
 refine eN (eN (cD h (fun g4 h=> ?_) (fun g4 h=> ?_)))
 refine eN ?_
 obtain ⟨k,x,h⟩:=bS h
 refine cK (An (cW (c_ref12_Advance p0.Sum p1 k x) (r5 (fr (r1 trivial)))) (r1 ?_))
 exact jT (k.2,p0.Recent,p0.Count,k.1,p0.Smooth,p0.Spread,p0.Poly,p0.Halve.Now,p0.Halve.Sums,p0.Extreme,p0.Quantile) (An h (r12 (r1 (fr (r4 (fr (r5 (fr (r6 (fr (r5 (fr (r3 (fr (r1 (fr (r4 (fr (fr (r3 (fr (r4 (fr (r32 (r12 (r2 trivial))))))))))))))))))))))))))
 refine eN (eN (cD h (fun g5 h=> ?_) (fun g5 h=> ?_)))
 refine eN ?_
 obtain ⟨l,y,h⟩:=bS h
 refine cK (An (cW (c_ref13_Advance p0.Smooth p1 l y) (r6 (fr (r1 trivial)))) (r1 ?_))
 exact jT (l.2,p0.Recent,p0.Count,p0.Sum,l.1,p0.Spread,p0.Poly,p0.Halve.Now,p0.Halve.Sums,p0.Extreme,p0.Quantile) (An h (r12 (r1 (fr (r4 (fr (r5 (fr (r6 (fr (r5 (fr (r3 (fr (r1 (fr (r4 (fr (fr (r3 (fr (r4 (fr (r32 (r12 (r2 trivial))))))))))))))))))))))))))
 refine eN (eN (cD h (fun g6 h=> ?_) (fun g6 h=> ?_)))
 refine eN ?_
 obtain ⟨m,z,h⟩:=bS h
 refine cK (An (cW (c_ref14_Advance p0.Spread p1 m z) (r5 (fr (r1 trivial)))) (r1 ?_))
 exact jT (m.2,p0.Recent,p0.Count,p0.Sum,p0.Smooth,m.1,p0.Poly,p0.Halve.Now,p0.Halve.Sums,p0.Extreme,p0.Quantile) (An h (r12 (r1 (fr (r4 (fr (r5 (fr (r6 (fr (r5 (fr (r3 (fr (r1 (fr (r4 (fr (fr (r3 (fr (r4 (fr (r32 (r12 (r2 trivial))))))))))))))))))))))))))
 refine eN (eN (cD h (fun g7 h=> ?_) (fun g7 h=> ?_)))
 refine eN ?_
 obtain ⟨n,A,h⟩:=bS h
 refine cK (An (cW (c_ref15_Advance p0.Poly p1 n A) (r3 (fr (r1 trivial)))) (r1 ?_))
 exact jT (n.2,p0.Recent,p0.Count,p0.Sum,p0.Smooth,p0.Spread,n.1,p0.Halve.Now,p0.Halve.Sums,p0.Extreme,p0.Quantile) (An h (r12 (r1 (fr (r4 (fr (r5 (fr (r6 (fr (r5 (fr (r3 (fr (r1 (fr (r4 (fr (fr (r3 (fr (r4 (fr (r32 (r12 (r2 trivial))))))))))))))))))))))))))
 refine eN (eN (cD h (fun g8 h=> ?_) (fun g8 h=> ?_)))
 refine eN ?_
 obtain ⟨a,B,h⟩:=bS h
 refine cK (An (cW (c_ref16_Advance p0.Halve p1 a B) (r1 (fr (r1 trivial)))) (r1 ?_))
 exact jT (a.2,p0.Recent,p0.Count,p0.Sum,p0.Smooth,p0.Spread,p0.Poly,a.1.Now,a.1.Sums,p0.Extreme,p0.Quantile) (An h (r12 (r1 (fr (r4 (fr (r5 (fr (r6 (fr (r5 (fr (r3 (fr (r1 (fr (r4 (fr (fr (r3 (fr (r4 (fr (r32 (r12 (r2 trivial))))))))))))))))))))))))))
 refine eN (eN (cD h (fun g9 h=> ?_) (fun g9 h=> ?_)))
 refine eN ?_
 obtain ⟨o,C,h⟩:=bS h
 refine cK (An (cW (c_ref17_Advance p0.Extreme p1 o C) (r4 (fr (r1 trivial)))) (r1 ?_))
 exact jT (o.2,p0.Recent,p0.Count,p0.Sum,p0.Smooth,p0.Spread,p0.Poly,p0.Halve.Now,p0.Halve.Sums,o.1,p0.Quantile) (An h (r12 (r1 (fr (r4 (fr (r5 (fr (r6 (fr (r5 (fr (r3 (fr (r1 (fr (r4 (fr (fr (r3 (fr (r4 (fr (r32 (r12 (r2 trivial))))))))))))))))))))))))))
 refine eN (eN (cD h (fun g10 h=> ?_) (fun g10 h=> ?_)))
 refine eN ?_
 obtain ⟨p,D,h⟩:=bS h
 refine cK (An (cW (c_ref23_Advance p0.Quantile p1 p D) (r4 (fr (r1 trivial)))) (r1 ?_))
 exact jT (p.2,p0.Recent,p0.Count,p0.Sum,p0.Smooth,p0.Spread,p0.Poly,p0.Halve.Now,p0.Halve.Sums,p0.Extreme,p.1) (An h (r12 (r1 (fr (r4 (fr (r5 (fr (r6 (fr (r5 (fr (r3 (fr (r1 (fr (r4 (fr (fr (r3 (fr (r4 (fr (r32 (r12 (r2 trivial))))))))))))))))))))))))))
 refine eN (cK (An (cW (c_ref06_Tick' p1 _ rfl) (r1 trivial)) (r1 ?_)))
 refine eN (cD h (fun g11 h=> ?_) (fun g11 h=> ?_))
 exact eN (jT ((3:Int),p0.Recent,p0.Count,p0.Sum,p0.Smooth,p0.Spread,p0.Poly,p0.Halve.Now,p0.Halve.Sums,p0.Extreme,p0.Quantile) (An h (r12 (r1 (fr (r4 (fr (r5 (fr (r6 (fr (r5 (fr (r3 (fr (r1 (fr (r4 (fr (fr (r3 (fr (r4 (fr (r32 (r12 (r2 trivial)))))))))))))))))))))))))))
 exact jT ((0:Int),p0.Recent,p0.Count,p0.Sum,p0.Smooth,p0.Spread,p0.Poly,p0.Halve.Now,p0.Halve.Sums,p0.Extreme,p0.Quantile) (An h (r12 (r1 (fr (r4 (fr (r5 (fr (r6 (fr (r5 (fr (r3 (fr (r1 (fr (r4 (fr (fr (r3 (fr (r4 (fr (r32 (r12 (r2 trivial))))))))))))))))))))))))))
 clear h
 refine fun q h=> ?_
 obtain ⟨H,s,b,c,d,e,f,t,u,g,i⟩:=q
 replace h:ref25_Advance_j3 p0 H s b c d e f t u g i=some r:=h
 delta ref25_Advance_j3 at h
 refine eN (cD h (fun g12 h=> ?_) (fun g12 h=> ?_))
 first|cases h|rw [←oJ h]
 exact eN (r48 (r8 (r2 trivial)))
 first|cases h|rw [←oJ h]
 exact eN (r8 (r3 (fr (r4 (fr (r5 (fr (r6 (fr (r5 (fr (r3 (fr (r1 (fr (r4 (fr (fr (r3 (fr (r4 (fr (r1 trivial)))))))))))))))))))))))
theorem c_law25_SynopsisAdvance (p0:api_Synopsis) (p1:Int) (r:Bool) (h:law25_SynopsisAdvance p0 p1=some r):Contract Tryz.prog 3 [.agg (enc_api_Synopsis p0),iI p1] [] (.sb r) []:=by
 refine C0 Tryz.func3 Tryz.call3 1 ?_
 delta law25_SynopsisAdvance at h
 refine eN (eN ?_)
 obtain ⟨c,d,h⟩:=bS h
 refine cK (An (cW (c_law25_few p0 c d) (r8 (r3 (fr (r4 (fr (r5 (fr (r6 (fr (r5 (fr (r3 (fr (r1 (fr (r4 (fr (fr (r3 (fr (r4 (fr trivial))))))))))))))))))))))) (r1 ?_))
 refine cD h (fun g1 h=> ?_) (fun g1 h=> ?_)
 refine eN ?_
 obtain ⟨e,f,h⟩:=bS h
 refine cK (An (cW (c_law25_awake e f) trivial) (r1 ?_))
 first|cases h|rw [←oJ h]
 exact (r1 trivial)
 refine eN ?_
 obtain ⟨a,g,h⟩:=bS h
 refine cK (An (cW (c_synopsis_Advance p0 p1 a g) (r8 (r3 (fr (r4 (fr (r5 (fr (r6 (fr (r5 (fr (r3 (fr (r1 (fr (r4 (fr (fr (r3 (fr (r4 (fr (r1 trivial)))))))))))))))))))))))) (r1 ?_))
 refine eN ?_
 obtain ⟨b,i,h⟩:=bS h
 refine cK (An (cW (c_ref25_Advance p0 p1 b i) (r8 (r3 (fr (r4 (fr (r5 (fr (r6 (fr (r5 (fr (r3 (fr (r1 (fr (r4 (fr (fr (r3 (fr (r4 (fr (r1 trivial)))))))))))))))))))))))) (r1 ?_))
 refine eN ?_
 obtain ⟨j,k,h⟩:=bS h
 obtain ⟨l,m,h⟩:=bS h
 refine eN (cK (An (cW (c_ref25_Same a.1 b.1 j k) (r8 (r3 (fr (r4 (fr (r5 (fr (r6 (fr (r5 (fr (r3 (fr (r1 (fr (r4 (fr (fr (r3 (fr (r4 (fr (r8 (r3 (fr (r4 (fr (r5 (fr (r6 (fr (r5 (fr (r3 (fr (r1 (fr (r4 (fr (fr (r3 (fr (r4 (fr trivial))))))))))))))))))))))))))))))))))))))))))))) (r1 ?_)))
 refine An (fun g2=> ?_) (fun g2=> ?_)
 refine An (fun g3=> ?_) (fun g3=> ?_)
 refine cK (An (cW (c_law25_awake l (gdT (aR g2 g3) m)) trivial) (r1 ?_))
 first|cases h|rw [←oJ h]
 exact (An (Eq.symm (aR (aR g2 g3) rfl)) trivial)
 first|cases h|rw [←oJ h]
 exact (An (Eq.symm (aL (aR g2 g3))) trivial)
 first|cases h|rw [←oJ h]
 exact (An (Eq.symm (aL (aL g2))) trivial)
end Go.Proofs.YtmipeaidieflmaaGreat
