/- The contracts: each function of the program does what its function on plain data says. Made by program. -/
import Derived.Test.YtinffhpeahlhoaaGreatTab
import Derived.Test.YtinffhpeahlhoaaGreatWin
import Derived.Test.YtinffhpeahlhoaaGreatVc
import Derived.Test.YtinffhpeahlhoaaGreatWalk
import Derived.Test.YtinffhpeahlhoaaGreatCon0
set_option linter.unusedVariables false
set_option linter.unusedSimpArgs false
set_option linter.unnecessarySimpa false
set_option maxHeartbeats 4000000
set_option maxRecDepth 20000
namespace Go.Proofs.YtinffhpeahlhoaaGreat
open Go.Vc Go.Dec Go.Win

theorem c_ref22_Allowed (p0 : Int) (p1 : Int) (r : Int) (h : ref22_Allowed p0 p1 = some r) : Contract Tryz.prog 282 [iI p0, iI p1] [] (iI r) [] := by
 refine C0 Tryz.func282 Tryz.call282 1 ?_
 delta ref22_Allowed at h
 refine eN (eN (eN (An (fun g1 => ?_) (fun g1 => ?_))))
 refine An (fun g2 => ?_) (fun g2 => ?_)
 refine An (fun g3 => ?_) (fun g3 => ?_)
 refine An (fun g4 => ?_) (fun g4 => ?_)
 replace h := cT (oR (oR (oR g1 g2) g3) g4) h
 cases h
 exact eN (r1 trivial)
 replace h := cF (oR (oR (oR g1 g2) g3) g4) h
 refine eN (eN ?_)
 replace h : ref22_Allowed_l3 p0 p1 (0:Int) (0:Int) = some r := h
 delta ref22_Allowed_l3 at h
 obtain ⟨n1, h⟩ := loopS h
 refine eX (Sum.inl ⟨(Int × Int) × Nat, fun q => [tM 0 (iI p0), tM 1 (iI p1), tM 5 (iI q.1.1), tM 6 (iI q.1.2)], fun q => loopN (fun (s : (Int × Int)) => ref22_Allowed_l3s p0 p1 s.1 s.2) q.2 q.1 = some r, fun q => q.2⟩) (An (eX [] (eX [] (eX (((0:Int), (0:Int)), n1) (An h (r5 trivial))))) ?_)
 clear h
 refine fun q h => ?_
 obtain ⟨⟨a, b⟩, n1⟩ := q
 obtain ⟨m1, x1, hm1, h, hl1, hr1⟩ := loopN_step h
 replace hm1 : n1 = m1 + 1 := hm1
 subst hm1
 replace h : ref22_Allowed_l3s p0 p1 a b = some x1 := h
 delta ref22_Allowed_l3s at h
 refine eN (cD h (fun g5 h => ?_) (fun g5 h => ?_))
 refine eN (eN ?_)
 obtain ⟨c, h⟩ := ckS h
 refine An (oD c) ?_
 refine eN (eN (cD h (fun g6 h => ?_) (fun g6 h => ?_)))
 refine eN ?_
 obtain ⟨d, h⟩ := ckS h
 refine An (oD d) ?_
 exact eN (jT (_, m1) (An (hl1 _ (oJ h).symm) (An (jL m1) (r5 trivial))))
 exact eN (jT (_, m1) (An (hl1 _ (oJ h).symm) (An (jL m1) (r5 trivial))))
 replace h := popS h hr1
 cases h
 exact eN (r1 trivial)
 replace h := cT (oL (oR (oR g1 g2) g3)) h
 cases h
 exact eN (r1 trivial)
 replace h := cT (oL (oL (oR g1 g2))) h
 cases h
 exact eN (r1 trivial)
 replace h := cT (oL (oL (oL g1))) h
 cases h
 exact eN (r1 trivial)

theorem c_ref22_Valid (p0 : (List api_Block)) (p1 : Int) (p2 : Int) (r : Bool) (h : ref22_Valid p0 p1 p2 = some r) : Contract Tryz.prog 243 [lF 5 (List.map enc_api_Block p0), iI p1, iI p2] [] (.sb r) [] := by
 refine C0 Tryz.func243 Tryz.call243 1 ?_
 delta ref22_Valid at h
 refine eN (eN ?_)
 obtain ⟨d, o, h⟩ := bS h
 obtain ⟨j, k, h⟩ := bS h
 refine eN (An (fun g1 => ?_) (fun g1 => ?_))
 refine An (fun g2 => ?_) (fun g2 => ?_)
 refine cK (An (cW (c_ref22_Plain p0 d (gdT (nE (oR g1 g2)) o)) (fr trivial)) (r1 ?_))
 refine cK (An (cW (c_ref10_Valid d p1 j (gdT (nE (oR g1 g2)) k)) (fr (r1 trivial))) (r1 ?_))
 refine An (fun g3 => ?_) (fun g3 => ?_)
 replace h := cT (oR (oR g1 g2) g3) h
 cases h
 exact eN (r1 trivial)
 replace h := cF (oR (oR g1 g2) g3) h
 refine eN (eX [iI (p0.length : Int)] (An (lenS enc_api_Block p0) ?_))
 replace h : ref22_Valid_l3 p0 p2 (0:Int) = some r := h
 delta ref22_Valid_l3 at h
 obtain ⟨n1, h⟩ := loopS h
 refine eX (Sum.inl ⟨Int × Nat, fun q => [tM 2 (iI p2), tM 25 (lF 5 (List.map enc_api_Block p0)), tM 26 (iI (p0.length : Int)), tM 27 (iI q.1)], fun q => loopN (fun (s : Int) => ref22_Valid_l3s p0 p2 s) q.2 q.1 = some r, fun q => q.2⟩) (An (eX [] (eX [] (eX ((0:Int), n1) (An h (r2 (fr (r2 trivial))))))) ?_)
 clear h
 refine fun q h => ?_
 obtain ⟨l, n1⟩ := q
 obtain ⟨m1, x1, hm1, h, hl1, hr1⟩ := loopN_step h
 replace hm1 : n1 = m1 + 1 := hm1
 subst hm1
 replace h : ref22_Valid_l3s p0 p2 l = some x1 := h
 delta ref22_Valid_l3s at h
 refine eN (cD h (fun g4 h => ?_) (fun g4 h => ?_))
 refine eN ?_
 obtain ⟨a, p, h⟩ := bS h
 refine eX (enc_api_Block a) (An (idx_map enc_api_Block p) ?_)
 refine eN (eX [iI (a.Ranks.Entries.length : Int)] (An (lenS enc_api_Entry a.Ranks.Entries) ?_))
 refine eN ?_
 obtain ⟨t, u, h⟩ := bS h
 obtain ⟨m, h⟩ := ckS h
 refine eN (cK (An (cW (c_ref21_Validate a.Ranks t u) (r1 (fr trivial))) (r1 ?_)))
 refine An (fun g5 => ?_) (fun g5 => ?_)
 refine An (oD (gT (nE g5) m)) ?_
 refine An (fun g6 => ?_) (fun g6 => ?_)
 refine An (fun g7 => ?_) (fun g7 => ?_)
 replace h := cT (oR (oR g5 g6) g7) h
 cases retS h hr1
 exact eN (r1 trivial)
 replace h := cF (oR (oR g5 g6) g7) h
 refine eN ?_
 obtain ⟨c, v, h⟩ := bS h
 obtain ⟨b, n, h⟩ := bS h
 refine eX [iI c.V, iI c.Min, iI c.Max] (An (idx_map enc_api_Entry v) ?_)
 refine eX [iI b.V, iI b.Min, iI b.Max] (An (idx_map enc_api_Entry n) ?_)
 refine eN ?_
 obtain ⟨e, f, h⟩ := bS h
 obtain ⟨g, i, h⟩ := bS h
 refine eN (cK (An (cW (c_ref09_Value' c.V _ rfl) (r1 trivial)) (r1 ?_)))
 refine An (fun g8 => ?_) (fun g8 => ?_)
 refine cK (An (cW (c_ref09_Value' b.V _ rfl) (r1 trivial)) (r1 ?_))
 refine An (fun g9 => ?_) (fun g9 => ?_)
 refine An (fun g10 => ?_) (fun g10 => ?_)
 refine An (fun g11 => ?_) (fun g11 => ?_)
 refine cK (An (cW (c_ref21_Gap a.Ranks e (gdT (nE (oR (oR (oR g8 g9) g10) g11)) f)) (r1 (fr trivial))) (r1 ?_))
 refine cK (An (cW (c_ref22_Allowed a.Level p2 g (gdT (nE (oR (oR (oR g8 g9) g10) g11)) i)) (r2 trivial)) (r1 ?_))
 refine An (fun g12 => ?_) (fun g12 => ?_)
 replace h := cT (oR (oR (oR (oR g8 g9) g10) g11) g12) h
 cases retS h hr1
 exact eN (r1 trivial)
 replace h := cF (oR (oR (oR (oR g8 g9) g10) g11) g12) h
 exact eN (jT (_, m1) (An (hl1 _ (oJ h).symm) (An (jL m1) (r2 (fr (r2 trivial))))))
 replace h := cT (oL (oR (oR (oR g8 g9) g10) g11)) h
 cases retS h hr1
 exact eN (r1 trivial)
 replace h := cT (oL (oL (oR (oR g8 g9) g10))) h
 cases retS h hr1
 exact eN (r1 trivial)
 replace h := cT (oL (oL (oL (oR g8 g9)))) h
 cases retS h hr1
 exact eN (r1 trivial)
 replace h := cT (oL (oL (oL (oL g8)))) h
 cases retS h hr1
 exact eN (r1 trivial)
 replace h := cT (oL (oR g5 g6)) h
 cases retS h hr1
 exact eN (r1 trivial)
 replace h := cT (oL (oL g5)) h
 cases retS h hr1
 exact eN (r1 trivial)
 replace h := popS h hr1
 cases h
 exact eN (r1 trivial)
 replace h := cT (oL (oR g1 g2)) h
 cases h
 exact eN (r1 trivial)
 replace h := cT (oL (oL g1)) h
 cases h
 exact eN (r1 trivial)

theorem c_ref22_Total (p0 : (List api_Block)) (r : Int) (h : ref22_Total p0 = some r) : Contract Tryz.prog 222 [lF 5 (List.map enc_api_Block p0)] [] (iI r) [] := by
 refine C0 Tryz.func222 Tryz.call222 1 ?_
 delta ref22_Total at h
 refine eN (eN ?_)
 obtain ⟨a, b, h⟩ := bS h
 obtain ⟨c, d, h⟩ := bS h
 refine cK (An (cW (c_ref22_Plain p0 a b) (fr trivial)) (r1 ?_))
 refine cK (An (cW (c_ref10_Total a c d) (fr trivial)) (r1 ?_))
 cases h
 exact (r1 trivial)

theorem c_ref23_Validate (p0 : api_Quantile) (r : Int) (h : ref23_Validate p0 = some r) : Contract Tryz.prog 172 [.agg (enc_api_Quantile p0)] [] (iI r) [] := by
 refine C0 Tryz.func172 Tryz.call172 1 ?_
 delta ref23_Validate at h
 refine eN (eN ?_)
 obtain ⟨a, c, h⟩ := bS h
 obtain ⟨d, e, h⟩ := bS h
 obtain ⟨f, g, h⟩ := bS h
 refine eN (cK (An (cW (c_ref09_May' p0.W p0.Cap p0.Now _ rfl) (r3 trivial)) (r1 ?_)))
 refine An (fun g1 => ?_) (fun g1 => ?_)
 refine cK (An (cW (c_ref11_MayK' p0.K _ rfl) (r1 trivial)) (r1 ?_))
 refine An (fun g2 => ?_) (fun g2 => ?_)
 refine cK (An (cW (c_ref23_Size p0.K p0.Cap a (gdT (nE (oR g1 g2)) c)) (r2 trivial)) (r1 ?_))
 refine cK (An (cW (c_ref22_Valid p0.Blocks (w64 ((2:Int) * p0.K)) a d (gdT (nE (oR g1 g2)) e)) (fr (r2 trivial))) (r1 ?_))
 refine An (fun g3 => ?_) (fun g3 => ?_)
 refine cK (An (cW (c_ref22_Total p0.Blocks f (gdT (nE (oR (oR g1 g2) g3)) g)) (fr trivial)) (r1 ?_))
 refine An (fun g4 => ?_) (fun g4 => ?_)
 replace h := cT (oR (oR (oR g1 g2) g3) g4) h
 cases h
 exact eN (r1 trivial)
 replace h := cF (oR (oR (oR g1 g2) g3) g4) h
 refine eN (eX [iI (p0.Blocks.length : Int)] (An (lenS enc_api_Block p0.Blocks) ?_))
 replace h : ref23_Validate_l3 p0 (0:Int) = some r := h
 delta ref23_Validate_l3 at h
 obtain ⟨n1, h⟩ := loopS h
 refine eX (Sum.inl ⟨Int × Nat, fun q => [tM 1 (.ptr 1 0), tM 42 (lF 5 (List.map enc_api_Block p0.Blocks)), tM 43 (iI (p0.Blocks.length : Int)), tM 44 (iI q.1), tB 1 (enc_api_Quantile p0)], fun q => loopN (fun (s : Int) => ref23_Validate_l3s p0 s) q.2 q.1 = some r, fun q => q.2⟩) (An (eX [] (eX [] (eX ((0:Int), n1) (An h (r1 (fr (r6 (fr trivial)))))))) ?_)
 clear h
 refine fun q h => ?_
 obtain ⟨i, n1⟩ := q
 obtain ⟨m1, x1, hm1, h, hl1, hr1⟩ := loopN_step h
 replace hm1 : n1 = m1 + 1 := hm1
 subst hm1
 replace h : ref23_Validate_l3s p0 i = some x1 := h
 delta ref23_Validate_l3s at h
 refine eN (cD h (fun g5 h => ?_) (fun g5 h => ?_))
 refine eN ?_
 obtain ⟨b, j, h⟩ := bS h
 refine eX (enc_api_Block b) (An (idx_map enc_api_Block j) ?_)
 refine eN (cK (An (cW (c_ref06_Live' p0.Now p0.W b.T _ rfl) (r3 trivial)) (r1 ?_)))
 refine cD h (fun g6 h => ?_) (fun g6 h => ?_)
 cases retS h hr1
 exact eN (r1 trivial)
 exact eN (jT (_, m1) (An (hl1 _ (oJ h).symm) (An (jL m1) (r1 (fr (r6 (fr trivial)))))))
 replace h := popS h hr1
 cases h
 exact eN (r1 trivial)
 replace h := cT (oL (oR (oR g1 g2) g3)) h
 cases h
 exact eN (r1 trivial)
 replace h := cT (oL (oL (oR g1 g2))) h
 cases h
 exact eN (r1 trivial)
 replace h := cT (oL (oL (oL g1))) h
 cases h
 exact eN (r1 trivial)

theorem c_ref25_made (p0 : api_Synopsis) (r : Bool) (h : ref25_made p0 = some r) : Contract Tryz.prog 80 [.agg (enc_api_Synopsis p0)] [] (.sb r) [] := by
 refine C0 Tryz.func80 Tryz.call80 1 ?_
 delta ref25_made at h
 refine eN (eN (eN (eN (cD h (fun g1 h => ?_) (fun g1 h => ?_)))))
 refine eN ?_
 obtain ⟨w, x, h⟩ := bS h
 refine eN (cK (An (cW (c_ref09_Validate p0.Recent w x) (r3 (fr trivial))) (r1 ?_)))
 refine An (fun g2 => ?_) (fun g2 => ?_)
 refine An (fun g3 => ?_) (fun g3 => ?_)
 cases h
 exact (An (Eq.symm (aR (aR g2 g3) rfl)) trivial)
 cases h
 exact (An (Eq.symm (aL (aR g2 g3))) trivial)
 cases h
 exact (An (Eq.symm (aL (aL g2))) trivial)
 refine eN (cD h (fun g4 h => ?_) (fun g4 h => ?_))
 refine eN ?_
 obtain ⟨y, z, h⟩ := bS h
 refine eN (cK (An (cW (c_ref11_Validate p0.Count y z) (r4 (fr trivial))) (r1 ?_)))
 refine An (fun g5 => ?_) (fun g5 => ?_)
 refine An (fun g6 => ?_) (fun g6 => ?_)
 refine An (fun g7 => ?_) (fun g7 => ?_)
 cases h
 exact (An (Eq.symm (aR (aR (aR g5 g6) g7) rfl)) trivial)
 cases h
 exact (An (Eq.symm (aL (aR (aR g5 g6) g7))) trivial)
 cases h
 exact (An (Eq.symm (aL (aL (aR g5 g6)))) trivial)
 cases h
 exact (An (Eq.symm (aL (aL (aL g5)))) trivial)
 refine eN (cD h (fun g8 h => ?_) (fun g8 h => ?_))
 refine eN ?_
 obtain ⟨A, B, h⟩ := bS h
 refine eN (cK (An (cW (c_ref12_Validate p0.Sum A B) (r5 (fr trivial))) (r1 ?_)))
 refine An (fun g9 => ?_) (fun g9 => ?_)
 refine An (fun g10 => ?_) (fun g10 => ?_)
 refine An (fun g11 => ?_) (fun g11 => ?_)
 refine An (fun g12 => ?_) (fun g12 => ?_)
 cases h
 exact (An (Eq.symm (aR (aR (aR (aR g9 g10) g11) g12) rfl)) trivial)
 cases h
 exact (An (Eq.symm (aL (aR (aR (aR g9 g10) g11) g12))) trivial)
 cases h
 exact (An (Eq.symm (aL (aL (aR (aR g9 g10) g11)))) trivial)
 cases h
 exact (An (Eq.symm (aL (aL (aL (aR g9 g10))))) trivial)
 cases h
 exact (An (Eq.symm (aL (aL (aL (aL g9))))) trivial)
 refine eN (cD h (fun g13 h => ?_) (fun g13 h => ?_))
 refine eN ?_
 obtain ⟨e, f, h⟩ := bS h
 refine eN (cK (An (cW (c_ref13_Validate p0.Smooth e f) (r6 (fr trivial))) (r1 ?_)))
 refine An (fun g14 => ?_) (fun g14 => ?_)
 refine An (fun g15 => ?_) (fun g15 => ?_)
 refine An (fun g16 => ?_) (fun g16 => ?_)
 refine An (fun g17 => ?_) (fun g17 => ?_)
 cases h
 exact (An (Eq.symm (aR (aR (aR (aR g14 g15) g16) g17) rfl)) trivial)
 cases h
 exact (An (Eq.symm (aL (aR (aR (aR g14 g15) g16) g17))) trivial)
 cases h
 exact (An (Eq.symm (aL (aL (aR (aR g14 g15) g16)))) trivial)
 cases h
 exact (An (Eq.symm (aL (aL (aL (aR g14 g15))))) trivial)
 cases h
 exact (An (Eq.symm (aL (aL (aL (aL g14))))) trivial)
 refine eN (cD h (fun g18 h => ?_) (fun g18 h => ?_))
 refine eN ?_
 obtain ⟨g, i, h⟩ := bS h
 refine eN (cK (An (cW (c_ref14_Validate p0.Spread g i) (r5 (fr trivial))) (r1 ?_)))
 refine An (fun g19 => ?_) (fun g19 => ?_)
 refine An (fun g20 => ?_) (fun g20 => ?_)
 refine An (fun g21 => ?_) (fun g21 => ?_)
 cases h
 exact (An (Eq.symm (aR (aR (aR g19 g20) g21) rfl)) trivial)
 cases h
 exact (An (Eq.symm (aL (aR (aR g19 g20) g21))) trivial)
 cases h
 exact (An (Eq.symm (aL (aL (aR g19 g20)))) trivial)
 cases h
 exact (An (Eq.symm (aL (aL (aL g19)))) trivial)
 refine eN (cD h (fun g22 h => ?_) (fun g22 h => ?_))
 refine eN ?_
 obtain ⟨j, k, h⟩ := bS h
 refine eN (cK (An (cW (c_ref15_Validate p0.Poly j k) (r3 (fr trivial))) (r1 ?_)))
 refine An (fun g23 => ?_) (fun g23 => ?_)
 cases h
 exact (An (Eq.symm (aR g23 rfl)) trivial)
 cases h
 exact (An (Eq.symm (aL g23)) trivial)
 refine eN (cD h (fun g24 h => ?_) (fun g24 h => ?_))
 refine eN ?_
 obtain ⟨l, m, h⟩ := bS h
 refine eN (cK (An (cW (c_ref16_Validate p0.Halve l m) (r1 (fr trivial))) (r1 ?_)))
 refine An (fun g25 => ?_) (fun g25 => ?_)
 refine eX [iI (p0.Halve.Sums.length : Int)] (An (lenS (eI .i64) p0.Halve.Sums) ?_)
 cases h
 exact (An (Eq.symm (aR g25 rfl)) trivial)
 cases h
 exact (An (Eq.symm (aL g25)) trivial)
 refine eN (cD h (fun g26 h => ?_) (fun g26 h => ?_))
 refine eN ?_
 obtain ⟨n, o, h⟩ := bS h
 refine eN (cK (An (cW (c_ref17_Validate p0.Extreme n o) (r4 (fr trivial))) (r1 ?_)))
 refine An (fun g27 => ?_) (fun g27 => ?_)
 refine An (fun g28 => ?_) (fun g28 => ?_)
 refine An (fun g29 => ?_) (fun g29 => ?_)
 cases h
 exact (An (Eq.symm (aR (aR (aR g27 g28) g29) rfl)) trivial)
 cases h
 exact (An (Eq.symm (aL (aR (aR g27 g28) g29))) trivial)
 cases h
 exact (An (Eq.symm (aL (aL (aR g27 g28)))) trivial)
 cases h
 exact (An (Eq.symm (aL (aL (aL g27)))) trivial)
 refine eN (cD h (fun g30 h => ?_) (fun g30 h => ?_))
 refine eN ?_
 obtain ⟨p, q, h⟩ := bS h
 obtain ⟨a, b, h⟩ := bS h
 obtain ⟨c, d, h⟩ := bS h
 refine eN (cK (An (cW (c_ref19_Validate p0.Sample p q) (fr trivial)) (r1 ?_)))
 refine An (fun g31 => ?_) (fun g31 => ?_)
 refine eX [iI (p0.Sample.Chains.length : Int)] (An (lenS enc_api_Chain p0.Sample.Chains) ?_)
 refine An (fun g32 => ?_) (fun g32 => ?_)
 refine eX (enc_api_Chain a) (An (idx_map enc_api_Chain (gdT (aR g31 g32) b)) ?_)
 refine An (fun g33 => ?_) (fun g33 => ?_)
 refine eX (enc_api_Chain c) (An (idx_map enc_api_Chain (gdT (aR (aR g31 g32) g33) d)) ?_)
 cases h
 exact (An (Eq.symm (aR (aR (aR g31 g32) g33) rfl)) trivial)
 cases h
 exact (An (Eq.symm (aL (aR (aR g31 g32) g33))) trivial)
 cases h
 exact (An (Eq.symm (aL (aL (aR g31 g32)))) trivial)
 cases h
 exact (An (Eq.symm (aL (aL (aL g31)))) trivial)
 refine eN (cD h (fun g34 h => ?_) (fun g34 h => ?_))
 refine eN ?_
 obtain ⟨s, t, h⟩ := bS h
 refine eN (cK (An (cW (c_ref20_Validate p0.Summary s t) (r3 (fr trivial))) (r1 ?_)))
 refine An (fun g35 => ?_) (fun g35 => ?_)
 refine An (fun g36 => ?_) (fun g36 => ?_)
 cases h
 exact (An (Eq.symm (aR (aR g35 g36) rfl)) trivial)
 cases h
 exact (An (Eq.symm (aL (aR g35 g36))) trivial)
 cases h
 exact (An (Eq.symm (aL (aL g35))) trivial)
 refine eN (cD h (fun g37 h => ?_) (fun g37 h => ?_))
 refine eN ?_
 obtain ⟨u, v, h⟩ := bS h
 refine eN (cK (An (cW (c_ref23_Validate p0.Quantile u v) (r4 (fr trivial))) (r1 ?_)))
 refine An (fun g38 => ?_) (fun g38 => ?_)
 refine An (fun g39 => ?_) (fun g39 => ?_)
 refine An (fun g40 => ?_) (fun g40 => ?_)
 cases h
 exact (An (Eq.symm (aR (aR (aR g38 g39) g40) rfl)) trivial)
 cases h
 exact (An (Eq.symm (aL (aR (aR g38 g39) g40))) trivial)
 cases h
 exact (An (Eq.symm (aL (aL (aR g38 g39)))) trivial)
 cases h
 exact (An (Eq.symm (aL (aL (aL g38)))) trivial)
 cases h
 exact eN (r1 trivial)

theorem c_ref25_Alone' (p0 : api_Synopsis) (r : api_Synopsis) (h : ref25_Alone p0 = r) : Contract Tryz.prog 81 [.agg (enc_api_Synopsis p0)] [] (.agg (enc_api_Synopsis r)) [] := by
 refine C0 Tryz.func81 Tryz.call81 1 ?_
 delta ref25_Alone at h
 refine eN (eN (eN (eN (eN (eX (some (⟨Int × Int × Int × (List api_Item) × Int × Int × Int × Int × (List api_Bucket) × Int × Int × Int × Int × Int × (List api_Bucket) × Int × Int × Int × Int × Int × Int × (List api_Mark) × Int × Int × Int × Int × Int × (List api_Mark) × Int × Int × Int × (List api_Wide) × Int × (List Int) × Bool × Int × Int × Int × (List api_Item) × (List api_Chain) × Int × Int × Int × (List api_Tuple) × Int × Int × Int × Int × (List api_Block), fun q => [tM 2 (.ptr 2 0), tM 3 (.ptr 260 0), tB 2 [iI (0:Int), iI (0:Int), iI (0:Int), iI (0:Int), iI (0:Int), iI (0:Int), iI (0:Int), iI (0:Int), iI (0:Int), iI (0:Int), iI (0:Int), .nilS, iI (0:Int), iI (0:Int), iI (0:Int), iI (0:Int), .nilS, iI (0:Int), iI (0:Int), iI (0:Int), iI (0:Int), iI (0:Int), .nilS, iI (0:Int), iI (0:Int), iI (0:Int), iI (0:Int), iI (0:Int), iI (0:Int), .nilS, iI (0:Int), iI (0:Int), iI (0:Int), iI (0:Int), iI (0:Int), .nilS, iI (0:Int), iI (0:Int), iI (0:Int), .nilS, iI (0:Int), .nilS, .bool false, iI (0:Int), iI (0:Int), iI (0:Int), .nilS, .nilS, iI (0:Int), iI (0:Int), iI (0:Int), .nilS, iI (0:Int), iI (0:Int), iI (0:Int), iI (0:Int), .nilS], tB 260 (List.append (enc_api_Config p0.Config) (iI q.1 :: (iI q.2.1 :: (iI q.2.2.1 :: (lF 2 (List.map enc_api_Item q.2.2.2.1) :: (iI q.2.2.2.2.1 :: (iI q.2.2.2.2.2.1 :: (iI q.2.2.2.2.2.2.1 :: (iI q.2.2.2.2.2.2.2.1 :: (lF 2 (List.map enc_api_Bucket q.2.2.2.2.2.2.2.2.1) :: (iI q.2.2.2.2.2.2.2.2.2.1 :: (iI q.2.2.2.2.2.2.2.2.2.2.1 :: (iI q.2.2.2.2.2.2.2.2.2.2.2.1 :: (iI q.2.2.2.2.2.2.2.2.2.2.2.2.1 :: (iI q.2.2.2.2.2.2.2.2.2.2.2.2.2.1 :: (lF 2 (List.map enc_api_Bucket q.2.2.2.2.2.2.2.2.2.2.2.2.2.2.1) :: (iI q.2.2.2.2.2.2.2.2.2.2.2.2.2.2.2.1 :: (iI q.2.2.2.2.2.2.2.2.2.2.2.2.2.2.2.2.1 :: (iI q.2.2.2.2.2.2.2.2.2.2.2.2.2.2.2.2.2.1 :: (iI q.2.2.2.2.2.2.2.2.2.2.2.2.2.2.2.2.2.2.1 :: (iI q.2.2.2.2.2.2.2.2.2.2.2.2.2.2.2.2.2.2.2.1 :: (iI q.2.2.2.2.2.2.2.2.2.2.2.2.2.2.2.2.2.2.2.2.1 :: (lF 7 (List.map enc_api_Mark q.2.2.2.2.2.2.2.2.2.2.2.2.2.2.2.2.2.2.2.2.2.1) :: (iI q.2.2.2.2.2.2.2.2.2.2.2.2.2.2.2.2.2.2.2.2.2.2.1 :: (iI q.2.2.2.2.2.2.2.2.2.2.2.2.2.2.2.2.2.2.2.2.2.2.2.1 :: (iI q.2.2.2.2.2.2.2.2.2.2.2.2.2.2.2.2.2.2.2.2.2.2.2.2.1 :: (iI q.2.2.2.2.2.2.2.2.2.2.2.2.2.2.2.2.2.2.2.2.2.2.2.2.2.1 :: (iI q.2.2.2.2.2.2.2.2.2.2.2.2.2.2.2.2.2.2.2.2.2.2.2.2.2.2.1 :: (lF 7 (List.map enc_api_Mark q.2.2.2.2.2.2.2.2.2.2.2.2.2.2.2.2.2.2.2.2.2.2.2.2.2.2.2.1) :: (iI q.2.2.2.2.2.2.2.2.2.2.2.2.2.2.2.2.2.2.2.2.2.2.2.2.2.2.2.2.1 :: (iI q.2.2.2.2.2.2.2.2.2.2.2.2.2.2.2.2.2.2.2.2.2.2.2.2.2.2.2.2.2.1 :: (iI q.2.2.2.2.2.2.2.2.2.2.2.2.2.2.2.2.2.2.2.2.2.2.2.2.2.2.2.2.2.2.1 :: (lF 2 (List.map enc_api_Wide q.2.2.2.2.2.2.2.2.2.2.2.2.2.2.2.2.2.2.2.2.2.2.2.2.2.2.2.2.2.2.2.1) :: (iI q.2.2.2.2.2.2.2.2.2.2.2.2.2.2.2.2.2.2.2.2.2.2.2.2.2.2.2.2.2.2.2.2.1 :: (lF 1 (List.map (eI .i64) q.2.2.2.2.2.2.2.2.2.2.2.2.2.2.2.2.2.2.2.2.2.2.2.2.2.2.2.2.2.2.2.2.2.1) :: (.sb q.2.2.2.2.2.2.2.2.2.2.2.2.2.2.2.2.2.2.2.2.2.2.2.2.2.2.2.2.2.2.2.2.2.2.1 :: (iI q.2.2.2.2.2.2.2.2.2.2.2.2.2.2.2.2.2.2.2.2.2.2.2.2.2.2.2.2.2.2.2.2.2.2.2.1 :: (iI q.2.2.2.2.2.2.2.2.2.2.2.2.2.2.2.2.2.2.2.2.2.2.2.2.2.2.2.2.2.2.2.2.2.2.2.2.1 :: (iI q.2.2.2.2.2.2.2.2.2.2.2.2.2.2.2.2.2.2.2.2.2.2.2.2.2.2.2.2.2.2.2.2.2.2.2.2.2.1 :: (lF 2 (List.map enc_api_Item q.2.2.2.2.2.2.2.2.2.2.2.2.2.2.2.2.2.2.2.2.2.2.2.2.2.2.2.2.2.2.2.2.2.2.2.2.2.2.1) :: (lF 5 (List.map enc_api_Chain q.2.2.2.2.2.2.2.2.2.2.2.2.2.2.2.2.2.2.2.2.2.2.2.2.2.2.2.2.2.2.2.2.2.2.2.2.2.2.2.1) :: (iI q.2.2.2.2.2.2.2.2.2.2.2.2.2.2.2.2.2.2.2.2.2.2.2.2.2.2.2.2.2.2.2.2.2.2.2.2.2.2.2.2.1 :: (iI q.2.2.2.2.2.2.2.2.2.2.2.2.2.2.2.2.2.2.2.2.2.2.2.2.2.2.2.2.2.2.2.2.2.2.2.2.2.2.2.2.2.1 :: (iI q.2.2.2.2.2.2.2.2.2.2.2.2.2.2.2.2.2.2.2.2.2.2.2.2.2.2.2.2.2.2.2.2.2.2.2.2.2.2.2.2.2.2.1 :: (lF 3 (List.map enc_api_Tuple q.2.2.2.2.2.2.2.2.2.2.2.2.2.2.2.2.2.2.2.2.2.2.2.2.2.2.2.2.2.2.2.2.2.2.2.2.2.2.2.2.2.2.2.1) :: (iI q.2.2.2.2.2.2.2.2.2.2.2.2.2.2.2.2.2.2.2.2.2.2.2.2.2.2.2.2.2.2.2.2.2.2.2.2.2.2.2.2.2.2.2.2.1 :: (iI q.2.2.2.2.2.2.2.2.2.2.2.2.2.2.2.2.2.2.2.2.2.2.2.2.2.2.2.2.2.2.2.2.2.2.2.2.2.2.2.2.2.2.2.2.2.1 :: (iI q.2.2.2.2.2.2.2.2.2.2.2.2.2.2.2.2.2.2.2.2.2.2.2.2.2.2.2.2.2.2.2.2.2.2.2.2.2.2.2.2.2.2.2.2.2.2.1 :: (iI q.2.2.2.2.2.2.2.2.2.2.2.2.2.2.2.2.2.2.2.2.2.2.2.2.2.2.2.2.2.2.2.2.2.2.2.2.2.2.2.2.2.2.2.2.2.2.2.1 :: (lF 5 (List.map enc_api_Block q.2.2.2.2.2.2.2.2.2.2.2.2.2.2.2.2.2.2.2.2.2.2.2.2.2.2.2.2.2.2.2.2.2.2.2.2.2.2.2.2.2.2.2.2.2.2.2.2) :: []))))))))))))))))))))))))))))))))))))))))))))))))))], fun q => ref25_Alone_j2 p0 q.1 q.2.1 q.2.2.1 q.2.2.2.1 q.2.2.2.2.1 q.2.2.2.2.2.1 q.2.2.2.2.2.2.1 q.2.2.2.2.2.2.2.1 q.2.2.2.2.2.2.2.2.1 q.2.2.2.2.2.2.2.2.2.1 q.2.2.2.2.2.2.2.2.2.2.1 q.2.2.2.2.2.2.2.2.2.2.2.1 q.2.2.2.2.2.2.2.2.2.2.2.2.1 q.2.2.2.2.2.2.2.2.2.2.2.2.2.1 q.2.2.2.2.2.2.2.2.2.2.2.2.2.2.1 q.2.2.2.2.2.2.2.2.2.2.2.2.2.2.2.1 q.2.2.2.2.2.2.2.2.2.2.2.2.2.2.2.2.1 q.2.2.2.2.2.2.2.2.2.2.2.2.2.2.2.2.2.1 q.2.2.2.2.2.2.2.2.2.2.2.2.2.2.2.2.2.2.1 q.2.2.2.2.2.2.2.2.2.2.2.2.2.2.2.2.2.2.2.1 q.2.2.2.2.2.2.2.2.2.2.2.2.2.2.2.2.2.2.2.2.1 q.2.2.2.2.2.2.2.2.2.2.2.2.2.2.2.2.2.2.2.2.2.1 q.2.2.2.2.2.2.2.2.2.2.2.2.2.2.2.2.2.2.2.2.2.2.1 q.2.2.2.2.2.2.2.2.2.2.2.2.2.2.2.2.2.2.2.2.2.2.2.1 q.2.2.2.2.2.2.2.2.2.2.2.2.2.2.2.2.2.2.2.2.2.2.2.2.1 q.2.2.2.2.2.2.2.2.2.2.2.2.2.2.2.2.2.2.2.2.2.2.2.2.2.1 q.2.2.2.2.2.2.2.2.2.2.2.2.2.2.2.2.2.2.2.2.2.2.2.2.2.2.1 q.2.2.2.2.2.2.2.2.2.2.2.2.2.2.2.2.2.2.2.2.2.2.2.2.2.2.2.1 q.2.2.2.2.2.2.2.2.2.2.2.2.2.2.2.2.2.2.2.2.2.2.2.2.2.2.2.2.1 q.2.2.2.2.2.2.2.2.2.2.2.2.2.2.2.2.2.2.2.2.2.2.2.2.2.2.2.2.2.1 q.2.2.2.2.2.2.2.2.2.2.2.2.2.2.2.2.2.2.2.2.2.2.2.2.2.2.2.2.2.2.1 q.2.2.2.2.2.2.2.2.2.2.2.2.2.2.2.2.2.2.2.2.2.2.2.2.2.2.2.2.2.2.2.1 q.2.2.2.2.2.2.2.2.2.2.2.2.2.2.2.2.2.2.2.2.2.2.2.2.2.2.2.2.2.2.2.2.1 q.2.2.2.2.2.2.2.2.2.2.2.2.2.2.2.2.2.2.2.2.2.2.2.2.2.2.2.2.2.2.2.2.2.1 q.2.2.2.2.2.2.2.2.2.2.2.2.2.2.2.2.2.2.2.2.2.2.2.2.2.2.2.2.2.2.2.2.2.2.1 q.2.2.2.2.2.2.2.2.2.2.2.2.2.2.2.2.2.2.2.2.2.2.2.2.2.2.2.2.2.2.2.2.2.2.2.1 q.2.2.2.2.2.2.2.2.2.2.2.2.2.2.2.2.2.2.2.2.2.2.2.2.2.2.2.2.2.2.2.2.2.2.2.2.1 q.2.2.2.2.2.2.2.2.2.2.2.2.2.2.2.2.2.2.2.2.2.2.2.2.2.2.2.2.2.2.2.2.2.2.2.2.2.1 q.2.2.2.2.2.2.2.2.2.2.2.2.2.2.2.2.2.2.2.2.2.2.2.2.2.2.2.2.2.2.2.2.2.2.2.2.2.2.1 q.2.2.2.2.2.2.2.2.2.2.2.2.2.2.2.2.2.2.2.2.2.2.2.2.2.2.2.2.2.2.2.2.2.2.2.2.2.2.2.1 q.2.2.2.2.2.2.2.2.2.2.2.2.2.2.2.2.2.2.2.2.2.2.2.2.2.2.2.2.2.2.2.2.2.2.2.2.2.2.2.2.1 q.2.2.2.2.2.2.2.2.2.2.2.2.2.2.2.2.2.2.2.2.2.2.2.2.2.2.2.2.2.2.2.2.2.2.2.2.2.2.2.2.2.1 q.2.2.2.2.2.2.2.2.2.2.2.2.2.2.2.2.2.2.2.2.2.2.2.2.2.2.2.2.2.2.2.2.2.2.2.2.2.2.2.2.2.2.1 q.2.2.2.2.2.2.2.2.2.2.2.2.2.2.2.2.2.2.2.2.2.2.2.2.2.2.2.2.2.2.2.2.2.2.2.2.2.2.2.2.2.2.2.1 q.2.2.2.2.2.2.2.2.2.2.2.2.2.2.2.2.2.2.2.2.2.2.2.2.2.2.2.2.2.2.2.2.2.2.2.2.2.2.2.2.2.2.2.2.1 q.2.2.2.2.2.2.2.2.2.2.2.2.2.2.2.2.2.2.2.2.2.2.2.2.2.2.2.2.2.2.2.2.2.2.2.2.2.2.2.2.2.2.2.2.2.1 q.2.2.2.2.2.2.2.2.2.2.2.2.2.2.2.2.2.2.2.2.2.2.2.2.2.2.2.2.2.2.2.2.2.2.2.2.2.2.2.2.2.2.2.2.2.2.1 q.2.2.2.2.2.2.2.2.2.2.2.2.2.2.2.2.2.2.2.2.2.2.2.2.2.2.2.2.2.2.2.2.2.2.2.2.2.2.2.2.2.2.2.2.2.2.2.1 q.2.2.2.2.2.2.2.2.2.2.2.2.2.2.2.2.2.2.2.2.2.2.2.2.2.2.2.2.2.2.2.2.2.2.2.2.2.2.2.2.2.2.2.2.2.2.2.2 = r, fun _ => 0⟩, 1000000)) (An ?_ ?_))))))
 refine cD h (fun g1 h => ?_) (fun g1 h => ?_)
 exact eN (jT (p0.Recent.W, p0.Recent.Cap, p0.Recent.Now, p0.Recent.Items, (0:Int), (0:Int), (0:Int), (0:Int), ([] : List api_Bucket), (0:Int), (0:Int), (0:Int), (0:Int), (0:Int), ([] : List api_Bucket), (0:Int), (0:Int), (0:Int), (0:Int), (0:Int), (0:Int), ([] : List api_Mark), (0:Int), (0:Int), (0:Int), (0:Int), (0:Int), ([] : List api_Mark), (0:Int), (0:Int), (0:Int), ([] : List api_Wide), (0:Int), ([] : List Int), false, (0:Int), (0:Int), (0:Int), ([] : List api_Item), ([] : List api_Chain), (0:Int), (0:Int), (0:Int), ([] : List api_Tuple), (0:Int), (0:Int), (0:Int), (0:Int), ([] : List api_Block)) (An h (r48 (r8 (r2 (fr (r32 (r12 (r1 trivial)))))))))
 refine eN (eN (cD h (fun g2 h => ?_) (fun g2 h => ?_)))
 exact eN (jT ((0:Int), (0:Int), (0:Int), ([] : List api_Item), p0.Count.W, p0.Count.K, p0.Count.Cap, p0.Count.Now, p0.Count.Buckets, (0:Int), (0:Int), (0:Int), (0:Int), (0:Int), ([] : List api_Bucket), (0:Int), (0:Int), (0:Int), (0:Int), (0:Int), (0:Int), ([] : List api_Mark), (0:Int), (0:Int), (0:Int), (0:Int), (0:Int), ([] : List api_Mark), (0:Int), (0:Int), (0:Int), ([] : List api_Wide), (0:Int), ([] : List Int), false, (0:Int), (0:Int), (0:Int), ([] : List api_Item), ([] : List api_Chain), (0:Int), (0:Int), (0:Int), ([] : List api_Tuple), (0:Int), (0:Int), (0:Int), (0:Int), ([] : List api_Block)) (An h (r48 (r12 (r3 (fr (r32 (r8 trivial))))))))
 refine eN (eN (cD h (fun g3 h => ?_) (fun g3 h => ?_)))
 exact eN (jT ((0:Int), (0:Int), (0:Int), ([] : List api_Item), (0:Int), (0:Int), (0:Int), (0:Int), ([] : List api_Bucket), p0.Sum.W, p0.Sum.K, p0.Sum.Cap, p0.Sum.Max, p0.Sum.Now, p0.Sum.Buckets, (0:Int), (0:Int), (0:Int), (0:Int), (0:Int), (0:Int), ([] : List api_Mark), (0:Int), (0:Int), (0:Int), (0:Int), (0:Int), ([] : List api_Mark), (0:Int), (0:Int), (0:Int), ([] : List api_Wide), (0:Int), ([] : List Int), false, (0:Int), (0:Int), (0:Int), ([] : List api_Item), ([] : List api_Chain), (0:Int), (0:Int), (0:Int), ([] : List api_Tuple), (0:Int), (0:Int), (0:Int), (0:Int), ([] : List api_Block)) (An h (r64 (r5 (fr (r32 (r2 trivial)))))))
 refine eN (eN (cD h (fun g4 h => ?_) (fun g4 h => ?_)))
 exact eN (jT ((0:Int), (0:Int), (0:Int), ([] : List api_Item), (0:Int), (0:Int), (0:Int), (0:Int), ([] : List api_Bucket), (0:Int), (0:Int), (0:Int), (0:Int), (0:Int), ([] : List api_Bucket), p0.Smooth.Agg, p0.Smooth.W, p0.Smooth.K, p0.Smooth.Cap, p0.Smooth.Now, p0.Smooth.Seq, p0.Smooth.Marks, (0:Int), (0:Int), (0:Int), (0:Int), (0:Int), ([] : List api_Mark), (0:Int), (0:Int), (0:Int), ([] : List api_Wide), (0:Int), ([] : List Int), false, (0:Int), (0:Int), (0:Int), ([] : List api_Item), ([] : List api_Chain), (0:Int), (0:Int), (0:Int), ([] : List api_Tuple), (0:Int), (0:Int), (0:Int), (0:Int), ([] : List api_Block)) (An h (r64 (r12 (fr (r24 (r3 trivial)))))))
 refine eN (eN (cD h (fun g5 h => ?_) (fun g5 h => ?_)))
 exact eN (jT ((0:Int), (0:Int), (0:Int), ([] : List api_Item), (0:Int), (0:Int), (0:Int), (0:Int), ([] : List api_Bucket), (0:Int), (0:Int), (0:Int), (0:Int), (0:Int), ([] : List api_Bucket), (0:Int), (0:Int), (0:Int), (0:Int), (0:Int), (0:Int), ([] : List api_Mark), p0.Spread.W, p0.Spread.K, p0.Spread.Cap, p0.Spread.Now, p0.Spread.Seq, p0.Spread.Marks, (0:Int), (0:Int), (0:Int), ([] : List api_Wide), (0:Int), ([] : List Int), false, (0:Int), (0:Int), (0:Int), ([] : List api_Item), ([] : List api_Chain), (0:Int), (0:Int), (0:Int), ([] : List api_Tuple), (0:Int), (0:Int), (0:Int), (0:Int), ([] : List api_Block)) (An h (r64 (r16 (r2 (fr (r16 (r5 trivial))))))))
 refine eN (eN (cD h (fun g6 h => ?_) (fun g6 h => ?_)))
 exact eN (jT ((0:Int), (0:Int), (0:Int), ([] : List api_Item), (0:Int), (0:Int), (0:Int), (0:Int), ([] : List api_Bucket), (0:Int), (0:Int), (0:Int), (0:Int), (0:Int), ([] : List api_Bucket), (0:Int), (0:Int), (0:Int), (0:Int), (0:Int), (0:Int), ([] : List api_Mark), (0:Int), (0:Int), (0:Int), (0:Int), (0:Int), ([] : List api_Mark), p0.Poly.P, p0.Poly.Land, p0.Poly.Now, p0.Poly.Moments, (0:Int), ([] : List Int), false, (0:Int), (0:Int), (0:Int), ([] : List api_Item), ([] : List api_Chain), (0:Int), (0:Int), (0:Int), ([] : List api_Tuple), (0:Int), (0:Int), (0:Int), (0:Int), ([] : List api_Block)) (An h (r64 (r16 (r6 (fr (r16 (r1 trivial))))))))
 refine eN (eN (cD h (fun g7 h => ?_) (fun g7 h => ?_)))
 exact eN (jT ((0:Int), (0:Int), (0:Int), ([] : List api_Item), (0:Int), (0:Int), (0:Int), (0:Int), ([] : List api_Bucket), (0:Int), (0:Int), (0:Int), (0:Int), (0:Int), ([] : List api_Bucket), (0:Int), (0:Int), (0:Int), (0:Int), (0:Int), (0:Int), ([] : List api_Mark), (0:Int), (0:Int), (0:Int), (0:Int), (0:Int), ([] : List api_Mark), (0:Int), (0:Int), (0:Int), ([] : List api_Wide), p0.Halve.Now, p0.Halve.Sums, false, (0:Int), (0:Int), (0:Int), ([] : List api_Item), ([] : List api_Chain), (0:Int), (0:Int), (0:Int), ([] : List api_Tuple), (0:Int), (0:Int), (0:Int), (0:Int), ([] : List api_Block)) (An h (r64 (r24 (fr (r12 (r3 trivial)))))))
 refine eN (eN (cD h (fun g8 h => ?_) (fun g8 h => ?_)))
 exact eN (jT ((0:Int), (0:Int), (0:Int), ([] : List api_Item), (0:Int), (0:Int), (0:Int), (0:Int), ([] : List api_Bucket), (0:Int), (0:Int), (0:Int), (0:Int), (0:Int), ([] : List api_Bucket), (0:Int), (0:Int), (0:Int), (0:Int), (0:Int), (0:Int), ([] : List api_Mark), (0:Int), (0:Int), (0:Int), (0:Int), (0:Int), ([] : List api_Mark), (0:Int), (0:Int), (0:Int), ([] : List api_Wide), (0:Int), ([] : List Int), p0.Extreme.Max, p0.Extreme.W, p0.Extreme.Cap, p0.Extreme.Now, p0.Extreme.Items, ([] : List api_Chain), (0:Int), (0:Int), (0:Int), ([] : List api_Tuple), (0:Int), (0:Int), (0:Int), (0:Int), ([] : List api_Block)) (An h (r64 (r24 (r5 (fr (r8 (r2 trivial))))))))
 refine eN (eN (cD h (fun g9 h => ?_) (fun g9 h => ?_)))
 exact eN (jT ((0:Int), (0:Int), (0:Int), ([] : List api_Item), (0:Int), (0:Int), (0:Int), (0:Int), ([] : List api_Bucket), (0:Int), (0:Int), (0:Int), (0:Int), (0:Int), ([] : List api_Bucket), (0:Int), (0:Int), (0:Int), (0:Int), (0:Int), (0:Int), ([] : List api_Mark), (0:Int), (0:Int), (0:Int), (0:Int), (0:Int), ([] : List api_Mark), (0:Int), (0:Int), (0:Int), ([] : List api_Wide), (0:Int), ([] : List Int), false, (0:Int), (0:Int), (0:Int), ([] : List api_Item), p0.Sample.Chains, (0:Int), (0:Int), (0:Int), ([] : List api_Tuple), (0:Int), (0:Int), (0:Int), (0:Int), ([] : List api_Block)) (An h (r64 (r24 (r6 (fr (r8 (r1 trivial))))))))
 refine eN (eN (cD h (fun g10 h => ?_) (fun g10 h => ?_)))
 exact eN (jT ((0:Int), (0:Int), (0:Int), ([] : List api_Item), (0:Int), (0:Int), (0:Int), (0:Int), ([] : List api_Bucket), (0:Int), (0:Int), (0:Int), (0:Int), (0:Int), ([] : List api_Bucket), (0:Int), (0:Int), (0:Int), (0:Int), (0:Int), (0:Int), ([] : List api_Mark), (0:Int), (0:Int), (0:Int), (0:Int), (0:Int), ([] : List api_Mark), (0:Int), (0:Int), (0:Int), ([] : List api_Wide), (0:Int), ([] : List Int), false, (0:Int), (0:Int), (0:Int), ([] : List api_Item), ([] : List api_Chain), p0.Summary.K, p0.Summary.Cap, p0.Summary.N, p0.Summary.Tuples, (0:Int), (0:Int), (0:Int), (0:Int), ([] : List api_Block)) (An h (r64 (r32 (r2 (fr (r5 trivial)))))))
 refine eN (eN (cD h (fun g11 h => ?_) (fun g11 h => ?_)))
 exact eN (jT ((0:Int), (0:Int), (0:Int), ([] : List api_Item), (0:Int), (0:Int), (0:Int), (0:Int), ([] : List api_Bucket), (0:Int), (0:Int), (0:Int), (0:Int), (0:Int), ([] : List api_Bucket), (0:Int), (0:Int), (0:Int), (0:Int), (0:Int), (0:Int), ([] : List api_Mark), (0:Int), (0:Int), (0:Int), (0:Int), (0:Int), ([] : List api_Mark), (0:Int), (0:Int), (0:Int), ([] : List api_Wide), (0:Int), ([] : List Int), false, (0:Int), (0:Int), (0:Int), ([] : List api_Item), ([] : List api_Chain), (0:Int), (0:Int), (0:Int), ([] : List api_Tuple), p0.Quantile.W, p0.Quantile.K, p0.Quantile.Cap, p0.Quantile.Now, p0.Quantile.Blocks) (An h (r64 (r32 (r7 (fr trivial))))))
 exact jT ((0:Int), (0:Int), (0:Int), ([] : List api_Item), (0:Int), (0:Int), (0:Int), (0:Int), ([] : List api_Bucket), (0:Int), (0:Int), (0:Int), (0:Int), (0:Int), ([] : List api_Bucket), (0:Int), (0:Int), (0:Int), (0:Int), (0:Int), (0:Int), ([] : List api_Mark), (0:Int), (0:Int), (0:Int), (0:Int), (0:Int), ([] : List api_Mark), (0:Int), (0:Int), (0:Int), ([] : List api_Wide), (0:Int), ([] : List Int), false, (0:Int), (0:Int), (0:Int), ([] : List api_Item), ([] : List api_Chain), (0:Int), (0:Int), (0:Int), ([] : List api_Tuple), (0:Int), (0:Int), (0:Int), (0:Int), ([] : List api_Block)) (An h (r64 (r32 (r8 trivial))))
 clear h
 refine fun q h => ?_
 obtain ⟨a2, a3, a, b, c, d, e, f, g, i, j, k, l, m, n, o, p, s, t, u, v, w, x, y, z, A, B, C, D, E, F, G, H, I, J, L, M, O, Q, R, S, T, U, V, X, Y, Z, a0, a1⟩ := q
 replace h : ref25_Alone_j2 p0 a2 a3 a b c d e f g i j k l m n o p s t u v w x y z A B C D E F G H I J L M O Q R S T U V X Y Z a0 a1 = r := h
 delta ref25_Alone_j2 at h
 cases h
 exact eN (r8 (r3 (fr (r4 (fr (r5 (fr (r6 (fr (r5 (fr (r3 (fr (r1 (fr (r4 (fr (fr (r3 (fr (r4 (fr trivial))))))))))))))))))))))

theorem c_ref05_SameItems (p0 : (List api_Item)) (p1 : (List api_Item)) (r : Bool) (h : ref05_SameItems p0 p1 = some r) : Contract Tryz.prog 145 [lF 2 (List.map enc_api_Item p0), lF 2 (List.map enc_api_Item p1)] [] (.sb r) [] := by
 refine C0 Tryz.func145 Tryz.call145 1 ?_
 delta ref05_SameItems at h
 refine eN (eN (eX [iI (p0.length : Int)] (An (lenS enc_api_Item p0) ?_)))
 refine eX [iI (p1.length : Int)] (An (lenS enc_api_Item p1) ?_)
 refine cD h (fun g1 h => ?_) (fun g1 h => ?_)
 cases h
 exact eN (r1 trivial)
 refine eN (eX [iI (p0.length : Int)] (An (lenS enc_api_Item p0) ?_))
 replace h : ref05_SameItems_l3 p0 p1 (0:Int) = some r := h
 delta ref05_SameItems_l3 at h
 obtain ⟨n1, h⟩ := loopS h
 refine eX (Sum.inl ⟨Int × Nat, fun q => [tM 0 (lF 2 (List.map enc_api_Item p0)), tM 1 (lF 2 (List.map enc_api_Item p1)), tM 12 (iI (p0.length : Int)), tM 13 (iI q.1)], fun q => loopN (fun (s : Int) => ref05_SameItems_l3s p0 p1 s) q.2 q.1 = some r, fun q => q.2⟩) (An (eX [] (eX [] (eX ((0:Int), n1) (An h (r1 (fr (fr (r2 trivial)))))))) ?_)
 clear h
 refine fun q h => ?_
 obtain ⟨c, n1⟩ := q
 obtain ⟨m1, x1, hm1, h, hl1, hr1⟩ := loopN_step h
 replace hm1 : n1 = m1 + 1 := hm1
 subst hm1
 replace h : ref05_SameItems_l3s p0 p1 c = some x1 := h
 delta ref05_SameItems_l3s at h
 refine eN (cD h (fun g2 h => ?_) (fun g2 h => ?_))
 refine eN (eN ?_)
 obtain ⟨a, d, h⟩ := bS h
 obtain ⟨b, e, h⟩ := bS h
 refine eX [iI a.T, iI a.V] (An (idx_map enc_api_Item d) ?_)
 refine eX [iI b.T, iI b.V] (An (idx_map enc_api_Item e) ?_)
 refine cD h (fun g3 h => ?_) (fun g3 h => ?_)
 cases retS h hr1
 exact eN (r1 trivial)
 exact eN (jT (_, m1) (An (hl1 _ (oJ h).symm) (An (jL m1) (r1 (fr (fr (r2 trivial)))))))
 replace h := popS h hr1
 cases h
 exact eN (r1 trivial)

theorem c_ref09_Same (p0 : api_Recent) (p1 : api_Recent) (r : Bool) (h : ref09_Same p0 p1 = some r) : Contract Tryz.prog 67 [.agg (enc_api_Recent p0), .agg (enc_api_Recent p1)] [] (.sb r) [] := by
 refine C0 Tryz.func67 Tryz.call67 1 ?_
 delta ref09_Same at h
 refine eN (eN ?_)
 obtain ⟨a, b, h⟩ := bS h
 refine eN (An (fun g1 => ?_) (fun g1 => ?_))
 refine An (fun g2 => ?_) (fun g2 => ?_)
 refine An (fun g3 => ?_) (fun g3 => ?_)
 refine cK (An (cW (c_ref05_SameItems p0.Items p1.Items a (gdT (aR (aR g1 g2) g3) b)) (fr (fr trivial))) (r1 ?_))
 cases h
 exact (An (Eq.symm (aR (aR (aR g1 g2) g3) rfl)) trivial)
 cases h
 exact (An (Eq.symm (aL (aR (aR g1 g2) g3))) trivial)
 cases h
 exact (An (Eq.symm (aL (aL (aR g1 g2)))) trivial)
 cases h
 exact (An (Eq.symm (aL (aL (aL g1)))) trivial)

theorem c_ref10_Same (p0 : (List api_Bucket)) (p1 : (List api_Bucket)) (r : Bool) (h : ref10_Same p0 p1 = some r) : Contract Tryz.prog 146 [lF 2 (List.map enc_api_Bucket p0), lF 2 (List.map enc_api_Bucket p1)] [] (.sb r) [] := by
 refine C0 Tryz.func146 Tryz.call146 1 ?_
 delta ref10_Same at h
 refine eN (eN (eX [iI (p0.length : Int)] (An (lenS enc_api_Bucket p0) ?_)))
 refine eX [iI (p1.length : Int)] (An (lenS enc_api_Bucket p1) ?_)
 refine cD h (fun g1 h => ?_) (fun g1 h => ?_)
 cases h
 exact eN (r1 trivial)
 refine eN (eX [iI (p0.length : Int)] (An (lenS enc_api_Bucket p0) ?_))
 replace h : ref10_Same_l3 p0 p1 (0:Int) = some r := h
 delta ref10_Same_l3 at h
 obtain ⟨n1, h⟩ := loopS h
 refine eX (Sum.inl ⟨Int × Nat, fun q => [tM 0 (lF 2 (List.map enc_api_Bucket p0)), tM 1 (lF 2 (List.map enc_api_Bucket p1)), tM 12 (iI (p0.length : Int)), tM 13 (iI q.1)], fun q => loopN (fun (s : Int) => ref10_Same_l3s p0 p1 s) q.2 q.1 = some r, fun q => q.2⟩) (An (eX [] (eX [] (eX ((0:Int), n1) (An h (r1 (fr (fr (r2 trivial)))))))) ?_)
 clear h
 refine fun q h => ?_
 obtain ⟨c, n1⟩ := q
 obtain ⟨m1, x1, hm1, h, hl1, hr1⟩ := loopN_step h
 replace hm1 : n1 = m1 + 1 := hm1
 subst hm1
 replace h : ref10_Same_l3s p0 p1 c = some x1 := h
 delta ref10_Same_l3s at h
 refine eN (cD h (fun g2 h => ?_) (fun g2 h => ?_))
 refine eN (eN ?_)
 obtain ⟨a, d, h⟩ := bS h
 obtain ⟨b, e, h⟩ := bS h
 refine eX [iI a.T, iI a.Level] (An (idx_map enc_api_Bucket d) ?_)
 refine eX [iI b.T, iI b.Level] (An (idx_map enc_api_Bucket e) ?_)
 refine cD h (fun g3 h => ?_) (fun g3 h => ?_)
 cases retS h hr1
 exact eN (r1 trivial)
 exact eN (jT (_, m1) (An (hl1 _ (oJ h).symm) (An (jL m1) (r1 (fr (fr (r2 trivial)))))))
 replace h := popS h hr1
 cases h
 exact eN (r1 trivial)

theorem c_ref11_Same (p0 : api_Count) (p1 : api_Count) (r : Bool) (h : ref11_Same p0 p1 = some r) : Contract Tryz.prog 68 [.agg (enc_api_Count p0), .agg (enc_api_Count p1)] [] (.sb r) [] := by
 refine C0 Tryz.func68 Tryz.call68 1 ?_
 delta ref11_Same at h
 refine eN (eN ?_)
 obtain ⟨a, b, h⟩ := bS h
 refine eN (An (fun g1 => ?_) (fun g1 => ?_))
 refine An (fun g2 => ?_) (fun g2 => ?_)
 refine An (fun g3 => ?_) (fun g3 => ?_)
 refine An (fun g4 => ?_) (fun g4 => ?_)
 refine cK (An (cW (c_ref10_Same p0.Buckets p1.Buckets a (gdT (aR (aR (aR g1 g2) g3) g4) b)) (fr (fr trivial))) (r1 ?_))
 cases h
 exact (An (Eq.symm (aR (aR (aR (aR g1 g2) g3) g4) rfl)) trivial)
 cases h
 exact (An (Eq.symm (aL (aR (aR (aR g1 g2) g3) g4))) trivial)
 cases h
 exact (An (Eq.symm (aL (aL (aR (aR g1 g2) g3)))) trivial)
 cases h
 exact (An (Eq.symm (aL (aL (aL (aR g1 g2))))) trivial)
 cases h
 exact (An (Eq.symm (aL (aL (aL (aL g1))))) trivial)

theorem c_ref12_Same (p0 : api_Sum) (p1 : api_Sum) (r : Bool) (h : ref12_Same p0 p1 = some r) : Contract Tryz.prog 69 [.agg (enc_api_Sum p0), .agg (enc_api_Sum p1)] [] (.sb r) [] := by
 refine C0 Tryz.func69 Tryz.call69 1 ?_
 delta ref12_Same at h
 refine eN (eN ?_)
 obtain ⟨a, b, h⟩ := bS h
 refine eN (An (fun g1 => ?_) (fun g1 => ?_))
 refine An (fun g2 => ?_) (fun g2 => ?_)
 refine An (fun g3 => ?_) (fun g3 => ?_)
 refine An (fun g4 => ?_) (fun g4 => ?_)
 refine An (fun g5 => ?_) (fun g5 => ?_)
 refine cK (An (cW (c_ref10_Same p0.Buckets p1.Buckets a (gdT (aR (aR (aR (aR g1 g2) g3) g4) g5) b)) (fr (fr trivial))) (r1 ?_))
 cases h
 exact (An (Eq.symm (aR (aR (aR (aR (aR g1 g2) g3) g4) g5) rfl)) trivial)
 cases h
 exact (An (Eq.symm (aL (aR (aR (aR (aR g1 g2) g3) g4) g5))) trivial)
 cases h
 exact (An (Eq.symm (aL (aL (aR (aR (aR g1 g2) g3) g4)))) trivial)
 cases h
 exact (An (Eq.symm (aL (aL (aL (aR (aR g1 g2) g3))))) trivial)
 cases h
 exact (An (Eq.symm (aL (aL (aL (aL (aR g1 g2)))))) trivial)
 cases h
 exact (An (Eq.symm (aL (aL (aL (aL (aL g1)))))) trivial)

theorem c_ref13_SameMarks (p0 : (List api_Mark)) (p1 : (List api_Mark)) (r : Bool) (h : ref13_SameMarks p0 p1 = some r) : Contract Tryz.prog 147 [lF 7 (List.map enc_api_Mark p0), lF 7 (List.map enc_api_Mark p1)] [] (.sb r) [] := by
 refine C0 Tryz.func147 Tryz.call147 1 ?_
 delta ref13_SameMarks at h
 refine eN (eN (eX [iI (p0.length : Int)] (An (lenS enc_api_Mark p0) ?_)))
 refine eX [iI (p1.length : Int)] (An (lenS enc_api_Mark p1) ?_)
 refine cD h (fun g1 h => ?_) (fun g1 h => ?_)
 cases h
 exact eN (r1 trivial)
 refine eN (eX [iI (p0.length : Int)] (An (lenS enc_api_Mark p0) ?_))
 replace h : ref13_SameMarks_l3 p0 p1 (0:Int) = some r := h
 delta ref13_SameMarks_l3 at h
 obtain ⟨n1, h⟩ := loopS h
 refine eX (Sum.inl ⟨Int × Nat, fun q => [tM 0 (lF 7 (List.map enc_api_Mark p0)), tM 1 (lF 7 (List.map enc_api_Mark p1)), tM 12 (iI (p0.length : Int)), tM 13 (iI q.1)], fun q => loopN (fun (s : Int) => ref13_SameMarks_l3s p0 p1 s) q.2 q.1 = some r, fun q => q.2⟩) (An (eX [] (eX [] (eX ((0:Int), n1) (An h (r1 (fr (fr (r2 trivial)))))))) ?_)
 clear h
 refine fun q h => ?_
 obtain ⟨a, n1⟩ := q
 obtain ⟨m1, x1, hm1, h, hl1, hr1⟩ := loopN_step h
 replace hm1 : n1 = m1 + 1 := hm1
 subst hm1
 replace h : ref13_SameMarks_l3s p0 p1 a = some x1 := h
 delta ref13_SameMarks_l3s at h
 refine eN (cD h (fun g2 h => ?_) (fun g2 h => ?_))
 refine eN (eN ?_)
 obtain ⟨b, c, h⟩ := bS h
 obtain ⟨d, e, h⟩ := bS h
 refine eX (enc_api_Mark b) (An (idx_map enc_api_Mark c) ?_)
 refine eX (enc_api_Mark d) (An (idx_map enc_api_Mark e) ?_)
 refine cD h (fun g3 h => ?_) (fun g3 h => ?_)
 cases retS h hr1
 exact eN (r1 trivial)
 exact eN (jT (_, m1) (An (hl1 _ (oJ h).symm) (An (jL m1) (r1 (fr (fr (r2 trivial)))))))
 replace h := popS h hr1
 cases h
 exact eN (r1 trivial)

theorem c_ref13_Same (p0 : api_Smooth) (p1 : api_Smooth) (r : Bool) (h : ref13_Same p0 p1 = some r) : Contract Tryz.prog 70 [.agg (enc_api_Smooth p0), .agg (enc_api_Smooth p1)] [] (.sb r) [] := by
 refine C0 Tryz.func70 Tryz.call70 1 ?_
 delta ref13_Same at h
 refine eN (eN ?_)
 obtain ⟨a, b, h⟩ := bS h
 refine eN (An (fun g1 => ?_) (fun g1 => ?_))
 refine An (fun g2 => ?_) (fun g2 => ?_)
 refine An (fun g3 => ?_) (fun g3 => ?_)
 refine An (fun g4 => ?_) (fun g4 => ?_)
 refine An (fun g5 => ?_) (fun g5 => ?_)
 refine An (fun g6 => ?_) (fun g6 => ?_)
 refine cK (An (cW (c_ref13_SameMarks p0.Marks p1.Marks a (gdT (aR (aR (aR (aR (aR g1 g2) g3) g4) g5) g6) b)) (fr (fr trivial))) (r1 ?_))
 cases h
 exact (An (Eq.symm (aR (aR (aR (aR (aR (aR g1 g2) g3) g4) g5) g6) rfl)) trivial)
 cases h
 exact (An (Eq.symm (aL (aR (aR (aR (aR (aR g1 g2) g3) g4) g5) g6))) trivial)
 cases h
 exact (An (Eq.symm (aL (aL (aR (aR (aR (aR g1 g2) g3) g4) g5)))) trivial)
 cases h
 exact (An (Eq.symm (aL (aL (aL (aR (aR (aR g1 g2) g3) g4))))) trivial)
 cases h
 exact (An (Eq.symm (aL (aL (aL (aL (aR (aR g1 g2) g3)))))) trivial)
 cases h
 exact (An (Eq.symm (aL (aL (aL (aL (aL (aR g1 g2))))))) trivial)
 cases h
 exact (An (Eq.symm (aL (aL (aL (aL (aL (aL g1))))))) trivial)

theorem c_ref14_Same (p0 : api_Spread) (p1 : api_Spread) (r : Bool) (h : ref14_Same p0 p1 = some r) : Contract Tryz.prog 71 [.agg (enc_api_Spread p0), .agg (enc_api_Spread p1)] [] (.sb r) [] := by
 refine C0 Tryz.func71 Tryz.call71 1 ?_
 delta ref14_Same at h
 refine eN (eN ?_)
 obtain ⟨a, b, h⟩ := bS h
 refine eN (An (fun g1 => ?_) (fun g1 => ?_))
 refine An (fun g2 => ?_) (fun g2 => ?_)
 refine An (fun g3 => ?_) (fun g3 => ?_)
 refine An (fun g4 => ?_) (fun g4 => ?_)
 refine An (fun g5 => ?_) (fun g5 => ?_)
 refine cK (An (cW (c_ref13_SameMarks p0.Marks p1.Marks a (gdT (aR (aR (aR (aR g1 g2) g3) g4) g5) b)) (fr (fr trivial))) (r1 ?_))
 cases h
 exact (An (Eq.symm (aR (aR (aR (aR (aR g1 g2) g3) g4) g5) rfl)) trivial)
 cases h
 exact (An (Eq.symm (aL (aR (aR (aR (aR g1 g2) g3) g4) g5))) trivial)
 cases h
 exact (An (Eq.symm (aL (aL (aR (aR (aR g1 g2) g3) g4)))) trivial)
 cases h
 exact (An (Eq.symm (aL (aL (aL (aR (aR g1 g2) g3))))) trivial)
 cases h
 exact (An (Eq.symm (aL (aL (aL (aL (aR g1 g2)))))) trivial)
 cases h
 exact (An (Eq.symm (aL (aL (aL (aL (aL g1)))))) trivial)

theorem c_ref15_SameWide (p0 : (List api_Wide)) (p1 : (List api_Wide)) (r : Bool) (h : ref15_SameWide p0 p1 = some r) : Contract Tryz.prog 148 [lF 2 (List.map enc_api_Wide p0), lF 2 (List.map enc_api_Wide p1)] [] (.sb r) [] := by
 refine C0 Tryz.func148 Tryz.call148 1 ?_
 delta ref15_SameWide at h
 refine eN (eN (eX [iI (p0.length : Int)] (An (lenS enc_api_Wide p0) ?_)))
 refine eX [iI (p1.length : Int)] (An (lenS enc_api_Wide p1) ?_)
 refine cD h (fun g1 h => ?_) (fun g1 h => ?_)
 cases h
 exact eN (r1 trivial)
 refine eN (eX [iI (p0.length : Int)] (An (lenS enc_api_Wide p0) ?_))
 replace h : ref15_SameWide_l3 p0 p1 (0:Int) = some r := h
 delta ref15_SameWide_l3 at h
 obtain ⟨n1, h⟩ := loopS h
 refine eX (Sum.inl ⟨Int × Nat, fun q => [tM 0 (lF 2 (List.map enc_api_Wide p0)), tM 1 (lF 2 (List.map enc_api_Wide p1)), tM 12 (iI (p0.length : Int)), tM 13 (iI q.1)], fun q => loopN (fun (s : Int) => ref15_SameWide_l3s p0 p1 s) q.2 q.1 = some r, fun q => q.2⟩) (An (eX [] (eX [] (eX ((0:Int), n1) (An h (r1 (fr (fr (r2 trivial)))))))) ?_)
 clear h
 refine fun q h => ?_
 obtain ⟨c, n1⟩ := q
 obtain ⟨m1, x1, hm1, h, hl1, hr1⟩ := loopN_step h
 replace hm1 : n1 = m1 + 1 := hm1
 subst hm1
 replace h : ref15_SameWide_l3s p0 p1 c = some x1 := h
 delta ref15_SameWide_l3s at h
 refine eN (cD h (fun g2 h => ?_) (fun g2 h => ?_))
 refine eN (eN ?_)
 obtain ⟨a, d, h⟩ := bS h
 obtain ⟨b, e, h⟩ := bS h
 refine eX [iU a.Hi, iU a.Lo] (An (idx_map enc_api_Wide d) ?_)
 refine eX [iU b.Hi, iU b.Lo] (An (idx_map enc_api_Wide e) ?_)
 refine cD h (fun g3 h => ?_) (fun g3 h => ?_)
 cases retS h hr1
 exact eN (r1 trivial)
 exact eN (jT (_, m1) (An (hl1 _ (oJ h).symm) (An (jL m1) (r1 (fr (fr (r2 trivial)))))))
 replace h := popS h hr1
 cases h
 exact eN (r1 trivial)

theorem c_ref15_Same (p0 : api_Poly) (p1 : api_Poly) (r : Bool) (h : ref15_Same p0 p1 = some r) : Contract Tryz.prog 72 [.agg (enc_api_Poly p0), .agg (enc_api_Poly p1)] [] (.sb r) [] := by
 refine C0 Tryz.func72 Tryz.call72 1 ?_
 delta ref15_Same at h
 refine eN (eN ?_)
 obtain ⟨a, b, h⟩ := bS h
 refine eN (An (fun g1 => ?_) (fun g1 => ?_))
 refine An (fun g2 => ?_) (fun g2 => ?_)
 refine An (fun g3 => ?_) (fun g3 => ?_)
 refine cK (An (cW (c_ref15_SameWide p0.Moments p1.Moments a (gdT (aR (aR g1 g2) g3) b)) (fr (fr trivial))) (r1 ?_))
 cases h
 exact (An (Eq.symm (aR (aR (aR g1 g2) g3) rfl)) trivial)
 cases h
 exact (An (Eq.symm (aL (aR (aR g1 g2) g3))) trivial)
 cases h
 exact (An (Eq.symm (aL (aL (aR g1 g2)))) trivial)
 cases h
 exact (An (Eq.symm (aL (aL (aL g1)))) trivial)

theorem c_ref09_SameNumbers (p0 : (List Int)) (p1 : (List Int)) (r : Bool) (h : ref09_SameNumbers p0 p1 = some r) : Contract Tryz.prog 14 [lF 1 (List.map (eI .i64) p0), lF 1 (List.map (eI .i64) p1)] [] (.sb r) [] := by
 refine C0 Tryz.func14 Tryz.call14 1 ?_
 delta ref09_SameNumbers at h
 refine eN (eN (eX [iI (p0.length : Int)] (An (lenS (eI .i64) p0) ?_)))
 refine eX [iI (p1.length : Int)] (An (lenS (eI .i64) p1) ?_)
 refine cD h (fun g1 h => ?_) (fun g1 h => ?_)
 cases h
 exact eN (r1 trivial)
 refine eN (eX [iI (p0.length : Int)] (An (lenS (eI .i64) p0) ?_))
 replace h : ref09_SameNumbers_l3 p0 p1 (0:Int) = some r := h
 delta ref09_SameNumbers_l3 at h
 obtain ⟨n1, h⟩ := loopS h
 refine eX (Sum.inl ⟨Int × Nat, fun q => [tM 0 (lF 1 (List.map (eI .i64) p0)), tM 1 (lF 1 (List.map (eI .i64) p1)), tM 12 (iI (p0.length : Int)), tM 13 (iI q.1)], fun q => loopN (fun (s : Int) => ref09_SameNumbers_l3s p0 p1 s) q.2 q.1 = some r, fun q => q.2⟩) (An (eX [] (eX [] (eX ((0:Int), n1) (An h (r1 (fr (fr (r2 trivial)))))))) ?_)
 clear h
 refine fun q h => ?_
 obtain ⟨a, n1⟩ := q
 obtain ⟨m1, x1, hm1, h, hl1, hr1⟩ := loopN_step h
 replace hm1 : n1 = m1 + 1 := hm1
 subst hm1
 replace h : ref09_SameNumbers_l3s p0 p1 a = some x1 := h
 delta ref09_SameNumbers_l3s at h
 refine eN (cD h (fun g2 h => ?_) (fun g2 h => ?_))
 refine eN (eN ?_)
 obtain ⟨b, c, h⟩ := bS h
 obtain ⟨d, e, h⟩ := bS h
 refine eX [iI b] (An (idx_map (eI .i64) c) ?_)
 refine eX [iI d] (An (idx_map (eI .i64) e) ?_)
 refine cD h (fun g3 h => ?_) (fun g3 h => ?_)
 cases retS h hr1
 exact eN (r1 trivial)
 exact eN (jT (_, m1) (An (hl1 _ (oJ h).symm) (An (jL m1) (r1 (fr (fr (r2 trivial)))))))
 replace h := popS h hr1
 cases h
 exact eN (r1 trivial)

theorem c_ref16_Same (p0 : api_Halve) (p1 : api_Halve) (r : Bool) (h : ref16_Same p0 p1 = some r) : Contract Tryz.prog 73 [.agg [iI p0.Now, lF 1 (List.map (eI .i64) p0.Sums)], .agg [iI p1.Now, lF 1 (List.map (eI .i64) p1.Sums)]] [] (.sb r) [] := by
 refine C0 Tryz.func73 Tryz.call73 1 ?_
 delta ref16_Same at h
 refine eN (eN ?_)
 obtain ⟨a, b, h⟩ := bS h
 refine eN (An (fun g1 => ?_) (fun g1 => ?_))
 refine cK (An (cW (c_ref09_SameNumbers p0.Sums p1.Sums a (gdT g1 b)) (fr (fr trivial))) (r1 ?_))
 cases h
 exact (An (Eq.symm (aR g1 rfl)) trivial)
 cases h
 exact (An (Eq.symm (aL g1)) trivial)

theorem c_ref17_Same (p0 : api_Extreme) (p1 : api_Extreme) (r : Bool) (h : ref17_Same p0 p1 = some r) : Contract Tryz.prog 74 [.agg (enc_api_Extreme p0), .agg (enc_api_Extreme p1)] [] (.sb r) [] := by
 refine C0 Tryz.func74 Tryz.call74 1 ?_
 delta ref17_Same at h
 refine eN (eN ?_)
 obtain ⟨a, b, h⟩ := bS h
 refine eN (An (fun g1 => ?_) (fun g1 => ?_))
 refine An (fun g2 => ?_) (fun g2 => ?_)
 refine An (fun g3 => ?_) (fun g3 => ?_)
 refine An (fun g4 => ?_) (fun g4 => ?_)
 refine cK (An (cW (c_ref05_SameItems p0.Items p1.Items a (gdT (aR (aR (aR g1 g2) g3) g4) b)) (fr (fr trivial))) (r1 ?_))
 cases h
 exact (An (Eq.symm (aR (aR (aR (aR g1 g2) g3) g4) rfl)) trivial)
 cases h
 exact (An (Eq.symm (aL (aR (aR (aR g1 g2) g3) g4))) trivial)
 cases h
 exact (An (Eq.symm (aL (aL (aR (aR g1 g2) g3)))) trivial)
 cases h
 exact (An (Eq.symm (aL (aL (aL (aR g1 g2))))) trivial)
 cases h
 exact (An (Eq.symm (aL (aL (aL (aL g1))))) trivial)

theorem c_ref18_Same (p0 : api_Chain) (p1 : api_Chain) (r : Bool) (h : ref18_Same p0 p1 = some r) : Contract Tryz.prog 149 [.agg (enc_api_Chain p0), .agg (enc_api_Chain p1)] [] (.sb r) [] := by
 refine C0 Tryz.func149 Tryz.call149 1 ?_
 delta ref18_Same at h
 refine eN (eN (eN (An (fun g1 => ?_) (fun g1 => ?_))))
 refine An (fun g2 => ?_) (fun g2 => ?_)
 refine An (fun g3 => ?_) (fun g3 => ?_)
 refine An (fun g4 => ?_) (fun g4 => ?_)
 refine eX [iI (p0.Links.length : Int)] (An (lenS enc_api_Link p0.Links) ?_)
 refine eX [iI (p1.Links.length : Int)] (An (lenS enc_api_Link p1.Links) ?_)
 refine An (fun g5 => ?_) (fun g5 => ?_)
 replace h := cT (oR (oR (oR (oR g1 g2) g3) g4) g5) h
 cases h
 exact eN (r1 trivial)
 replace h := cF (oR (oR (oR (oR g1 g2) g3) g4) g5) h
 refine eN (eX [iI (p0.Links.length : Int)] (An (lenS enc_api_Link p0.Links) ?_))
 replace h : ref18_Same_l3 p0 p1 (0:Int) = some r := h
 delta ref18_Same_l3 at h
 obtain ⟨n1, h⟩ := loopS h
 refine eX (Sum.inl ⟨Int × Nat, fun q => [tM 2 (.ptr 1 0), tM 3 (.ptr 2 0), tM 43 (iI (p0.Links.length : Int)), tM 44 (iI q.1), tB 1 (enc_api_Chain p0), tB 2 (enc_api_Chain p1)], fun q => loopN (fun (s : Int) => ref18_Same_l3s p0 p1 s) q.2 q.1 = some r, fun q => q.2⟩) (An (eX [] (eX [] (eX ((0:Int), n1) (An h (r7 (fr (r4 (fr trivial)))))))) ?_)
 clear h
 refine fun q h => ?_
 obtain ⟨c, n1⟩ := q
 obtain ⟨m1, x1, hm1, h, hl1, hr1⟩ := loopN_step h
 replace hm1 : n1 = m1 + 1 := hm1
 subst hm1
 replace h : ref18_Same_l3s p0 p1 c = some x1 := h
 delta ref18_Same_l3s at h
 refine eN (cD h (fun g6 h => ?_) (fun g6 h => ?_))
 refine eN (eN ?_)
 obtain ⟨a, d, h⟩ := bS h
 obtain ⟨b, e, h⟩ := bS h
 refine eX [iI a.I, iI a.V] (An (idx_map enc_api_Link d) ?_)
 refine eX [iI b.I, iI b.V] (An (idx_map enc_api_Link e) ?_)
 refine cD h (fun g7 h => ?_) (fun g7 h => ?_)
 cases retS h hr1
 exact eN (r1 trivial)
 exact eN (jT (_, m1) (An (hl1 _ (oJ h).symm) (An (jL m1) (r7 (fr (r4 (fr trivial)))))))
 replace h := popS h hr1
 cases h
 exact eN (r1 trivial)
 replace h := cT (oL (oR (oR (oR g1 g2) g3) g4)) h
 cases h
 exact eN (r1 trivial)
 replace h := cT (oL (oL (oR (oR g1 g2) g3))) h
 cases h
 exact eN (r1 trivial)
 replace h := cT (oL (oL (oL (oR g1 g2)))) h
 cases h
 exact eN (r1 trivial)
 replace h := cT (oL (oL (oL (oL g1)))) h
 cases h
 exact eN (r1 trivial)

theorem c_ref19_Same (p0 : api_Sample) (p1 : api_Sample) (r : Bool) (h : ref19_Same p0 p1 = some r) : Contract Tryz.prog 75 [.agg [lF 5 (List.map enc_api_Chain p0.Chains)], .agg [lF 5 (List.map enc_api_Chain p1.Chains)]] [] (.sb r) [] := by
 refine C0 Tryz.func75 Tryz.call75 1 ?_
 delta ref19_Same at h
 refine eN (eN (eX [iI (p0.Chains.length : Int)] (An (lenS enc_api_Chain p0.Chains) ?_)))
 refine eX [iI (p1.Chains.length : Int)] (An (lenS enc_api_Chain p1.Chains) ?_)
 refine cD h (fun g1 h => ?_) (fun g1 h => ?_)
 cases h
 exact eN (r1 trivial)
 refine eN (eX [iI (p0.Chains.length : Int)] (An (lenS enc_api_Chain p0.Chains) ?_))
 replace h : ref19_Same_l3 p0 p1 (0:Int) = some r := h
 delta ref19_Same_l3 at h
 obtain ⟨n1, h⟩ := loopS h
 refine eX (Sum.inl ⟨Int × Nat, fun q => [tM 2 (.ptr 1 0), tM 3 (.ptr 2 0), tM 15 (iI (p0.Chains.length : Int)), tM 16 (iI q.1), tB 1 [lF 5 (List.map enc_api_Chain p0.Chains)], tB 2 [lF 5 (List.map enc_api_Chain p1.Chains)]], fun q => loopN (fun (s : Int) => ref19_Same_l3s p0 p1 s) q.2 q.1 = some r, fun q => q.2⟩) (An (eX [] (eX [] (eX ((0:Int), n1) (An h (r3 (fr (fr trivial))))))) ?_)
 clear h
 refine fun q h => ?_
 obtain ⟨c, n1⟩ := q
 obtain ⟨m1, x1, hm1, h, hl1, hr1⟩ := loopN_step h
 replace hm1 : n1 = m1 + 1 := hm1
 subst hm1
 replace h : ref19_Same_l3s p0 p1 c = some x1 := h
 delta ref19_Same_l3s at h
 refine eN (cD h (fun g2 h => ?_) (fun g2 h => ?_))
 refine eN (eN ?_)
 obtain ⟨a, f, h⟩ := bS h
 obtain ⟨b, g, h⟩ := bS h
 obtain ⟨d, e, h⟩ := bS h
 refine eX (enc_api_Chain a) (An (idx_map enc_api_Chain f) ?_)
 refine eX (enc_api_Chain b) (An (idx_map enc_api_Chain g) ?_)
 refine cK (An (cW (c_ref18_Same a b d e) (r4 (fr (r4 (fr trivial))))) (r1 ?_))
 refine cD h (fun g3 h => ?_) (fun g3 h => ?_)
 cases retS h hr1
 exact eN (r1 trivial)
 exact eN (jT (_, m1) (An (hl1 _ (oJ h).symm) (An (jL m1) (r3 (fr (fr trivial))))))
 replace h := popS h hr1
 cases h
 exact eN (r1 trivial)

theorem c_ref20_Same (p0 : api_Summary) (p1 : api_Summary) (r : Bool) (h : ref20_Same p0 p1 = some r) : Contract Tryz.prog 76 [.agg (enc_api_Summary p0), .agg (enc_api_Summary p1)] [] (.sb r) [] := by
 refine C0 Tryz.func76 Tryz.call76 1 ?_
 delta ref20_Same at h
 refine eN (eN (eN (An (fun g1 => ?_) (fun g1 => ?_))))
 refine An (fun g2 => ?_) (fun g2 => ?_)
 refine An (fun g3 => ?_) (fun g3 => ?_)
 refine eX [iI (p0.Tuples.length : Int)] (An (lenS enc_api_Tuple p0.Tuples) ?_)
 refine eX [iI (p1.Tuples.length : Int)] (An (lenS enc_api_Tuple p1.Tuples) ?_)
 refine An (fun g4 => ?_) (fun g4 => ?_)
 replace h := cT (oR (oR (oR g1 g2) g3) g4) h
 cases h
 exact eN (r1 trivial)
 replace h := cF (oR (oR (oR g1 g2) g3) g4) h
 refine eN (eX [iI (p0.Tuples.length : Int)] (An (lenS enc_api_Tuple p0.Tuples) ?_))
 replace h : ref20_Same_l3 p0 p1 (0:Int) = some r := h
 delta ref20_Same_l3 at h
 obtain ⟨n1, h⟩ := loopS h
 refine eX (Sum.inl ⟨Int × Nat, fun q => [tM 2 (.ptr 1 0), tM 3 (.ptr 2 0), tM 36 (iI (p0.Tuples.length : Int)), tM 37 (iI q.1), tB 1 (enc_api_Summary p0), tB 2 (enc_api_Summary p1)], fun q => loopN (fun (s : Int) => ref20_Same_l3s p0 p1 s) q.2 q.1 = some r, fun q => q.2⟩) (An (eX [] (eX [] (eX ((0:Int), n1) (An h (r6 (fr (r3 (fr trivial)))))))) ?_)
 clear h
 refine fun q h => ?_
 obtain ⟨c, n1⟩ := q
 obtain ⟨m1, x1, hm1, h, hl1, hr1⟩ := loopN_step h
 replace hm1 : n1 = m1 + 1 := hm1
 subst hm1
 replace h : ref20_Same_l3s p0 p1 c = some x1 := h
 delta ref20_Same_l3s at h
 refine eN (cD h (fun g5 h => ?_) (fun g5 h => ?_))
 refine eN (eN ?_)
 obtain ⟨a, d, h⟩ := bS h
 obtain ⟨b, e, h⟩ := bS h
 refine eX [iI a.V, iI a.G, iI a.D] (An (idx_map enc_api_Tuple d) ?_)
 refine eX [iI b.V, iI b.G, iI b.D] (An (idx_map enc_api_Tuple e) ?_)
 refine cD h (fun g6 h => ?_) (fun g6 h => ?_)
 cases retS h hr1
 exact eN (r1 trivial)
 exact eN (jT (_, m1) (An (hl1 _ (oJ h).symm) (An (jL m1) (r6 (fr (r3 (fr trivial)))))))
 replace h := popS h hr1
 cases h
 exact eN (r1 trivial)
 replace h := cT (oL (oR (oR g1 g2) g3)) h
 cases h
 exact eN (r1 trivial)
 replace h := cT (oL (oL (oR g1 g2))) h
 cases h
 exact eN (r1 trivial)
 replace h := cT (oL (oL (oL g1))) h
 cases h
 exact eN (r1 trivial)

theorem c_ref21_Same (p0 : api_Ranks) (p1 : api_Ranks) (r : Bool) (h : ref21_Same p0 p1 = some r) : Contract Tryz.prog 228 [.agg [iI p0.N, lF 3 (List.map enc_api_Entry p0.Entries)], .agg [iI p1.N, lF 3 (List.map enc_api_Entry p1.Entries)]] [] (.sb r) [] := by
 refine C0 Tryz.func228 Tryz.call228 1 ?_
 delta ref21_Same at h
 refine eN (eN (eN (An (fun g1 => ?_) (fun g1 => ?_))))
 refine eX [iI (p0.Entries.length : Int)] (An (lenS enc_api_Entry p0.Entries) ?_)
 refine eX [iI (p1.Entries.length : Int)] (An (lenS enc_api_Entry p1.Entries) ?_)
 refine An (fun g2 => ?_) (fun g2 => ?_)
 replace h := cT (oR g1 g2) h
 cases h
 exact eN (r1 trivial)
 replace h := cF (oR g1 g2) h
 refine eN (eX [iI (p0.Entries.length : Int)] (An (lenS enc_api_Entry p0.Entries) ?_))
 replace h : ref21_Same_l3 p0 p1 (0:Int) = some r := h
 delta ref21_Same_l3 at h
 obtain ⟨n1, h⟩ := loopS h
 refine eX (Sum.inl ⟨Int × Nat, fun q => [tM 2 (.ptr 1 0), tM 3 (.ptr 2 0), tM 22 (iI (p0.Entries.length : Int)), tM 23 (iI q.1), tB 1 [iI p0.N, lF 3 (List.map enc_api_Entry p0.Entries)], tB 2 [iI p1.N, lF 3 (List.map enc_api_Entry p1.Entries)]], fun q => loopN (fun (s : Int) => ref21_Same_l3s p0 p1 s) q.2 q.1 = some r, fun q => q.2⟩) (An (eX [] (eX [] (eX ((0:Int), n1) (An h (r4 (fr (r1 (fr trivial)))))))) ?_)
 clear h
 refine fun q h => ?_
 obtain ⟨c, n1⟩ := q
 obtain ⟨m1, x1, hm1, h, hl1, hr1⟩ := loopN_step h
 replace hm1 : n1 = m1 + 1 := hm1
 subst hm1
 replace h : ref21_Same_l3s p0 p1 c = some x1 := h
 delta ref21_Same_l3s at h
 refine eN (cD h (fun g3 h => ?_) (fun g3 h => ?_))
 refine eN (eN ?_)
 obtain ⟨a, d, h⟩ := bS h
 obtain ⟨b, e, h⟩ := bS h
 refine eX [iI a.V, iI a.Min, iI a.Max] (An (idx_map enc_api_Entry d) ?_)
 refine eX [iI b.V, iI b.Min, iI b.Max] (An (idx_map enc_api_Entry e) ?_)
 refine cD h (fun g4 h => ?_) (fun g4 h => ?_)
 cases retS h hr1
 exact eN (r1 trivial)
 exact eN (jT (_, m1) (An (hl1 _ (oJ h).symm) (An (jL m1) (r4 (fr (r1 (fr trivial)))))))
 replace h := popS h hr1
 cases h
 exact eN (r1 trivial)
 replace h := cT (oL g1) h
 cases h
 exact eN (r1 trivial)

theorem c_ref22_Same (p0 : (List api_Block)) (p1 : (List api_Block)) (r : Bool) (h : ref22_Same p0 p1 = some r) : Contract Tryz.prog 150 [lF 5 (List.map enc_api_Block p0), lF 5 (List.map enc_api_Block p1)] [] (.sb r) [] := by
 refine C0 Tryz.func150 Tryz.call150 1 ?_
 delta ref22_Same at h
 refine eN (eN (eX [iI (p0.length : Int)] (An (lenS enc_api_Block p0) ?_)))
 refine eX [iI (p1.length : Int)] (An (lenS enc_api_Block p1) ?_)
 refine cD h (fun g1 h => ?_) (fun g1 h => ?_)
 cases h
 exact eN (r1 trivial)
 refine eN (eX [iI (p0.length : Int)] (An (lenS enc_api_Block p0) ?_))
 replace h : ref22_Same_l3 p0 p1 (0:Int) = some r := h
 delta ref22_Same_l3 at h
 obtain ⟨n1, h⟩ := loopS h
 refine eX (Sum.inl ⟨Int × Nat, fun q => [tM 0 (lF 5 (List.map enc_api_Block p0)), tM 1 (lF 5 (List.map enc_api_Block p1)), tM 12 (iI (p0.length : Int)), tM 13 (iI q.1)], fun q => loopN (fun (s : Int) => ref22_Same_l3s p0 p1 s) q.2 q.1 = some r, fun q => q.2⟩) (An (eX [] (eX [] (eX ((0:Int), n1) (An h (r1 (fr (fr (r2 trivial)))))))) ?_)
 clear h
 refine fun q h => ?_
 obtain ⟨c, n1⟩ := q
 obtain ⟨m1, x1, hm1, h, hl1, hr1⟩ := loopN_step h
 replace hm1 : n1 = m1 + 1 := hm1
 subst hm1
 replace h : ref22_Same_l3s p0 p1 c = some x1 := h
 delta ref22_Same_l3s at h
 refine eN (cD h (fun g2 h => ?_) (fun g2 h => ?_))
 refine eN (eN ?_)
 obtain ⟨t, u, h⟩ := bS h
 obtain ⟨v, w, h⟩ := bS h
 obtain ⟨d, e, h⟩ := bS h
 obtain ⟨f, g, h⟩ := bS h
 obtain ⟨i, j, h⟩ := bS h
 obtain ⟨k, l, h⟩ := bS h
 obtain ⟨a, m, h⟩ := bS h
 obtain ⟨b, n, h⟩ := bS h
 obtain ⟨o, p, h⟩ := bS h
 refine eN (eX (enc_api_Block t) (An (idx_map enc_api_Block u) ?_))
 refine eX (enc_api_Block v) (An (idx_map enc_api_Block w) ?_)
 refine An (fun g3 => ?_) (fun g3 => ?_)
 refine eX (enc_api_Block d) (An (idx_map enc_api_Block (gdT (nE g3) e)) ?_)
 refine eX (enc_api_Block f) (An (idx_map enc_api_Block (gdT (nE g3) g)) ?_)
 refine An (fun g4 => ?_) (fun g4 => ?_)
 refine eX (enc_api_Block i) (An (idx_map enc_api_Block (gdT (nE (oR g3 g4)) j)) ?_)
 refine eX (enc_api_Block k) (An (idx_map enc_api_Block (gdT (nE (oR g3 g4)) l)) ?_)
 refine An (fun g5 => ?_) (fun g5 => ?_)
 refine eX (enc_api_Block a) (An (idx_map enc_api_Block (gdT (nE (oR (oR g3 g4) g5)) m)) ?_)
 refine eX (enc_api_Block b) (An (idx_map enc_api_Block (gdT (nE (oR (oR g3 g4) g5)) n)) ?_)
 refine cK (An (cW (c_ref21_Same a.Ranks b.Ranks o (gdT (nE (oR (oR g3 g4) g5)) p)) (r1 (fr (r1 (fr trivial))))) (r1 ?_))
 refine An (fun g6 => ?_) (fun g6 => ?_)
 replace h := cT (oR (oR (oR g3 g4) g5) g6) h
 cases retS h hr1
 exact eN (r1 trivial)
 replace h := cF (oR (oR (oR g3 g4) g5) g6) h
 exact eN (jT (_, m1) (An (hl1 _ (oJ h).symm) (An (jL m1) (r1 (fr (fr (r2 trivial)))))))
 replace h := cT (oL (oR (oR g3 g4) g5)) h
 cases retS h hr1
 exact eN (r1 trivial)
 replace h := cT (oL (oL (oR g3 g4))) h
 cases retS h hr1
 exact eN (r1 trivial)
 replace h := cT (oL (oL (oL g3))) h
 cases retS h hr1
 exact eN (r1 trivial)
 replace h := popS h hr1
 cases h
 exact eN (r1 trivial)

theorem c_ref23_Same (p0 : api_Quantile) (p1 : api_Quantile) (r : Bool) (h : ref23_Same p0 p1 = some r) : Contract Tryz.prog 77 [.agg (enc_api_Quantile p0), .agg (enc_api_Quantile p1)] [] (.sb r) [] := by
 refine C0 Tryz.func77 Tryz.call77 1 ?_
 delta ref23_Same at h
 refine eN (eN ?_)
 obtain ⟨a, b, h⟩ := bS h
 refine eN (An (fun g1 => ?_) (fun g1 => ?_))
 refine An (fun g2 => ?_) (fun g2 => ?_)
 refine An (fun g3 => ?_) (fun g3 => ?_)
 refine An (fun g4 => ?_) (fun g4 => ?_)
 refine cK (An (cW (c_ref22_Same p0.Blocks p1.Blocks a (gdT (aR (aR (aR g1 g2) g3) g4) b)) (fr (fr trivial))) (r1 ?_))
 cases h
 exact (An (Eq.symm (aR (aR (aR (aR g1 g2) g3) g4) rfl)) trivial)
 cases h
 exact (An (Eq.symm (aL (aR (aR (aR g1 g2) g3) g4))) trivial)
 cases h
 exact (An (Eq.symm (aL (aL (aR (aR g1 g2) g3)))) trivial)
 cases h
 exact (An (Eq.symm (aL (aL (aL (aR g1 g2))))) trivial)
 cases h
 exact (An (Eq.symm (aL (aL (aL (aL g1))))) trivial)

theorem c_ref25_Same (p0 : api_Synopsis) (p1 : api_Synopsis) (r : Bool) (h : ref25_Same p0 p1 = some r) : Contract Tryz.prog 26 [.agg (enc_api_Synopsis p0), .agg (enc_api_Synopsis p1)] [] (.sb r) [] := by
 refine C0 Tryz.func26 Tryz.call26 1 ?_
 delta ref25_Same at h
 refine eN (eN ?_)
 obtain ⟨a, b, h⟩ := bS h
 obtain ⟨c, d, h⟩ := bS h
 obtain ⟨e, f, h⟩ := bS h
 obtain ⟨g, i, h⟩ := bS h
 obtain ⟨j, k, h⟩ := bS h
 obtain ⟨l, m, h⟩ := bS h
 obtain ⟨n, o, h⟩ := bS h
 obtain ⟨p, q, h⟩ := bS h
 obtain ⟨s, t, h⟩ := bS h
 obtain ⟨u, v, h⟩ := bS h
 obtain ⟨w, x, h⟩ := bS h
 refine eN (An (fun g1 => ?_) (fun g1 => ?_))
 refine cK (An (cW (c_ref09_Same p0.Recent p1.Recent a (gdT g1 b)) (r3 (fr (r3 (fr trivial))))) (r1 ?_))
 refine An (fun g2 => ?_) (fun g2 => ?_)
 refine cK (An (cW (c_ref11_Same p0.Count p1.Count c (gdT (aR g1 g2) d)) (r4 (fr (r4 (fr trivial))))) (r1 ?_))
 refine An (fun g3 => ?_) (fun g3 => ?_)
 refine cK (An (cW (c_ref12_Same p0.Sum p1.Sum e (gdT (aR (aR g1 g2) g3) f)) (r5 (fr (r5 (fr trivial))))) (r1 ?_))
 refine An (fun g4 => ?_) (fun g4 => ?_)
 refine cK (An (cW (c_ref13_Same p0.Smooth p1.Smooth g (gdT (aR (aR (aR g1 g2) g3) g4) i)) (r6 (fr (r6 (fr trivial))))) (r1 ?_))
 refine An (fun g5 => ?_) (fun g5 => ?_)
 refine cK (An (cW (c_ref14_Same p0.Spread p1.Spread j (gdT (aR (aR (aR (aR g1 g2) g3) g4) g5) k)) (r5 (fr (r5 (fr trivial))))) (r1 ?_))
 refine An (fun g6 => ?_) (fun g6 => ?_)
 refine cK (An (cW (c_ref15_Same p0.Poly p1.Poly l (gdT (aR (aR (aR (aR (aR g1 g2) g3) g4) g5) g6) m)) (r3 (fr (r3 (fr trivial))))) (r1 ?_))
 refine An (fun g7 => ?_) (fun g7 => ?_)
 refine cK (An (cW (c_ref16_Same p0.Halve p1.Halve n (gdT (aR (aR (aR (aR (aR (aR g1 g2) g3) g4) g5) g6) g7) o)) (r1 (fr (r1 (fr trivial))))) (r1 ?_))
 refine An (fun g8 => ?_) (fun g8 => ?_)
 refine cK (An (cW (c_ref17_Same p0.Extreme p1.Extreme p (gdT (aR (aR (aR (aR (aR (aR (aR g1 g2) g3) g4) g5) g6) g7) g8) q)) (r4 (fr (r4 (fr trivial))))) (r1 ?_))
 refine An (fun g9 => ?_) (fun g9 => ?_)
 refine cK (An (cW (c_ref19_Same p0.Sample p1.Sample s (gdT (aR (aR (aR (aR (aR (aR (aR (aR g1 g2) g3) g4) g5) g6) g7) g8) g9) t)) (fr (fr trivial))) (r1 ?_))
 refine An (fun g10 => ?_) (fun g10 => ?_)
 refine cK (An (cW (c_ref20_Same p0.Summary p1.Summary u (gdT (aR (aR (aR (aR (aR (aR (aR (aR (aR g1 g2) g3) g4) g5) g6) g7) g8) g9) g10) v)) (r3 (fr (r3 (fr trivial))))) (r1 ?_))
 refine An (fun g11 => ?_) (fun g11 => ?_)
 refine cK (An (cW (c_ref23_Same p0.Quantile p1.Quantile w (gdT (aR (aR (aR (aR (aR (aR (aR (aR (aR (aR g1 g2) g3) g4) g5) g6) g7) g8) g9) g10) g11) x)) (r4 (fr (r4 (fr trivial))))) (r1 ?_))
 cases h
 exact (An (Eq.symm (aR (aR (aR (aR (aR (aR (aR (aR (aR (aR (aR g1 g2) g3) g4) g5) g6) g7) g8) g9) g10) g11) rfl)) trivial)
 cases h
 exact (An (Eq.symm (aL (aR (aR (aR (aR (aR (aR (aR (aR (aR (aR g1 g2) g3) g4) g5) g6) g7) g8) g9) g10) g11))) trivial)
 cases h
 exact (An (Eq.symm (aL (aL (aR (aR (aR (aR (aR (aR (aR (aR (aR g1 g2) g3) g4) g5) g6) g7) g8) g9) g10)))) trivial)
 cases h
 exact (An (Eq.symm (aL (aL (aL (aR (aR (aR (aR (aR (aR (aR (aR g1 g2) g3) g4) g5) g6) g7) g8) g9))))) trivial)
 cases h
 exact (An (Eq.symm (aL (aL (aL (aL (aR (aR (aR (aR (aR (aR (aR g1 g2) g3) g4) g5) g6) g7) g8)))))) trivial)
 cases h
 exact (An (Eq.symm (aL (aL (aL (aL (aL (aR (aR (aR (aR (aR (aR g1 g2) g3) g4) g5) g6) g7))))))) trivial)
 cases h
 exact (An (Eq.symm (aL (aL (aL (aL (aL (aL (aR (aR (aR (aR (aR g1 g2) g3) g4) g5) g6)))))))) trivial)
 cases h
 exact (An (Eq.symm (aL (aL (aL (aL (aL (aL (aL (aR (aR (aR (aR g1 g2) g3) g4) g5))))))))) trivial)
 cases h
 exact (An (Eq.symm (aL (aL (aL (aL (aL (aL (aL (aL (aR (aR (aR g1 g2) g3) g4)))))))))) trivial)
 cases h
 exact (An (Eq.symm (aL (aL (aL (aL (aL (aL (aL (aL (aL (aR (aR g1 g2) g3))))))))))) trivial)
 cases h
 exact (An (Eq.symm (aL (aL (aL (aL (aL (aL (aL (aL (aL (aL (aR g1 g2)))))))))))) trivial)
 cases h
 exact (An (Eq.symm (aL (aL (aL (aL (aL (aL (aL (aL (aL (aL (aL g1)))))))))))) trivial)

theorem c_ref25_Validate (p0 : api_Synopsis) (r : Int) (h : ref25_Validate p0 = some r) : Contract Tryz.prog 30 [.agg (enc_api_Synopsis p0)] [] (iI r) [] := by
 refine C0 Tryz.func30 Tryz.call30 1 ?_
 delta ref25_Validate at h
 refine eN (eN ?_)
 obtain ⟨c, d, h⟩ := bS h
 obtain ⟨a, b, h⟩ := bS h
 refine eN (cK (An (cW (c_ref24_Validate' p0.Config _ rfl) (r8 trivial)) (r1 ?_)))
 refine An (fun g1 => ?_) (fun g1 => ?_)
 refine cK (An (cW (c_ref25_made p0 c (gdT (nE g1) d)) (r8 (r3 (fr (r4 (fr (r5 (fr (r6 (fr (r5 (fr (r3 (fr (r1 (fr (r4 (fr (fr (r3 (fr (r4 (fr trivial))))))))))))))))))))))) (r1 ?_))
 refine An (fun g2 => ?_) (fun g2 => ?_)
 refine cK (An (cW (c_ref25_Alone' p0 _ rfl) (r8 (r3 (fr (r4 (fr (r5 (fr (r6 (fr (r5 (fr (r3 (fr (r1 (fr (r4 (fr (fr (r3 (fr (r4 (fr trivial))))))))))))))))))))))) (r1 ?_))
 refine cK (An (cW (c_ref25_Same p0 (ref25_Alone p0) a (gdT (nE (oR g1 g2)) b)) (r8 (r3 (fr (r4 (fr (r5 (fr (r6 (fr (r5 (fr (r3 (fr (r1 (fr (r4 (fr (fr (r3 (fr (r4 (fr (r8 (r3 (fr (r4 (fr (r5 (fr (r6 (fr (r5 (fr (r3 (fr (r1 (fr (r4 (fr (fr (r3 (fr (r4 (fr trivial))))))))))))))))))))))))))))))))))))))))))))) (r1 ?_))
 refine An (fun g3 => ?_) (fun g3 => ?_)
 replace h := cT (oR (oR g1 g2) g3) h
 cases h
 exact eN (r1 trivial)
 replace h := cF (oR (oR g1 g2) g3) h
 cases h
 exact eN (r1 trivial)
 replace h := cT (oL (oR g1 g2)) h
 cases h
 exact eN (r1 trivial)
 replace h := cT (oL (oL g1)) h
 cases h
 exact eN (r1 trivial)

theorem c_synopsis_tick' (p0 : Int) (r : Bool) (h : synopsis_tick p0 = r) : Contract Tryz.prog 42 [iI p0] [] (.sb r) [] := by
 refine C0 Tryz.func42 Tryz.call42 1 ?_
 delta synopsis_tick at h
 refine eN (eN (eN (An (fun g1 => ?_) (fun g1 => ?_))))
 cases h
 exact (An (Eq.symm (aR g1 rfl)) trivial)
 cases h
 exact (An (Eq.symm (aL g1)) trivial)

theorem c_recent_New' (p0 : Int) (p1 : Int) (p2 : Int) (r : (api_Recent × Int)) (h : recent_New p0 p1 p2 = r) : Contract Tryz.prog 43 [iI p0, iI p1, iI p2] [] (.tup [.agg (enc_api_Recent r.1), iI r.2]) [] := by
 refine C0 Tryz.func43 Tryz.call43 1 ?_
 delta recent_New at h
 refine eN (eN (cK (An (cW (c_recent_good' p0 p1 p2 _ rfl) (r3 trivial)) (r1 ?_))))
 refine cD h (fun g1 h => ?_) (fun g1 h => ?_)
 cases h
 exact eN (r5 trivial)
 cases h
 exact eN (r5 trivial)

theorem c_count_New' (p0 : Int) (p1 : Int) (p2 : Int) (p3 : Int) (r : (api_Count × Int)) (h : count_New p0 p1 p2 p3 = r) : Contract Tryz.prog 44 [iI p0, iI p1, iI p2, iI p3] [] (.tup [.agg (enc_api_Count r.1), iI r.2]) [] := by
 refine C0 Tryz.func44 Tryz.call44 1 ?_
 delta count_New at h
 refine eN (eN (cK (An (cW (c_count_good' p0 p1 p2 p3 _ rfl) (r4 trivial)) (r1 ?_))))
 refine cD h (fun g1 h => ?_) (fun g1 h => ?_)
 cases h
 exact eN (r6 trivial)
 cases h
 exact eN (r6 trivial)

theorem c_sum_New' (p0 : Int) (p1 : Int) (p2 : Int) (p3 : Int) (p4 : Int) (r : (api_Sum × Int)) (h : sum_New p0 p1 p2 p3 p4 = r) : Contract Tryz.prog 45 [iI p0, iI p1, iI p2, iI p3, iI p4] [] (.tup [.agg (enc_api_Sum r.1), iI r.2]) [] := by
 refine C0 Tryz.func45 Tryz.call45 1 ?_
 delta sum_New at h
 refine eN (eN (cK (An (cW (c_sum_good' p0 p1 p2 p3 p4 _ rfl) (r5 trivial)) (r1 ?_))))
 refine cD h (fun g1 h => ?_) (fun g1 h => ?_)
 cases h
 exact eN (r7 trivial)
 cases h
 exact eN (r7 trivial)

theorem c_smooth_New' (p0 : Int) (p1 : Int) (p2 : Int) (p3 : Int) (p4 : Int) (r : (api_Smooth × Int)) (h : smooth_New p0 p1 p2 p3 p4 = r) : Contract Tryz.prog 46 [iI p0, iI p1, iI p2, iI p3, iI p4] [] (.tup [.agg (enc_api_Smooth r.1), iI r.2]) [] := by
 refine C0 Tryz.func46 Tryz.call46 1 ?_
 delta smooth_New at h
 refine eN (eN (cK (An (cW (c_smooth_good' p0 p1 p2 p3 p4 _ rfl) (r5 trivial)) (r1 ?_))))
 refine cD h (fun g1 h => ?_) (fun g1 h => ?_)
 cases h
 exact eN (r8 trivial)
 cases h
 exact eN (r8 trivial)

theorem c_spread_New' (p0 : Int) (p1 : Int) (p2 : Int) (p3 : Int) (r : (api_Spread × Int)) (h : spread_New p0 p1 p2 p3 = r) : Contract Tryz.prog 47 [iI p0, iI p1, iI p2, iI p3] [] (.tup [.agg (enc_api_Spread r.1), iI r.2]) [] := by
 refine C0 Tryz.func47 Tryz.call47 1 ?_
 delta spread_New at h
 refine eN (eN (cK (An (cW (c_marks_Good' p0 p1 p2 p3 _ rfl) (r4 trivial)) (r1 ?_))))
 refine cD h (fun g1 h => ?_) (fun g1 h => ?_)
 cases h
 exact eN (r7 trivial)
 cases h
 exact eN (r7 trivial)

theorem c_poly_New (p0 : Int) (p1 : Int) (r : (api_Poly × Int)) (h : poly_New p0 p1 = some r) : Contract Tryz.prog 48 [iI p0, iI p1] [] (.tup [.agg (enc_api_Poly r.1), iI r.2]) [] := by
 refine C0 Tryz.func48 Tryz.call48 1 ?_
 delta poly_New at h
 refine eN (eN (eN (An (fun g1 => ?_) (fun g1 => ?_))))
 refine An (fun g2 => ?_) (fun g2 => ?_)
 refine cK (An (cW (c_poly_tick' p1 _ rfl) (r1 trivial)) (r1 ?_))
 refine An (fun g3 => ?_) (fun g3 => ?_)
 replace h := cT (oR (oR g1 g2) g3) h
 cases h
 exact eN (r5 trivial)
 replace h := cF (oR (oR g1 g2) g3) h
 refine eN ?_
 obtain ⟨a, h⟩ := ckS h
 refine An (oD a) ?_
 cases h
 exact (r3 (An ff (An lE (r1 trivial))))
 replace h := cT (oL (oR g1 g2)) h
 cases h
 exact eN (r5 trivial)
 replace h := cT (oL (oL g1)) h
 cases h
 exact eN (r5 trivial)

theorem c_halve_New (p0 : Int) (p1 : Int) (r : (api_Halve × Int)) (h : halve_New p0 p1 = some r) : Contract Tryz.prog 49 [iI p0, iI p1] [] (.tup [.agg [iI r.1.Now, lF 1 (List.map (eI .i64) r.1.Sums)], iI r.2]) [] := by
 refine C0 Tryz.func49 Tryz.call49 1 ?_
 delta halve_New at h
 refine eN (eN (eN (An (fun g1 => ?_) (fun g1 => ?_))))
 refine An (fun g2 => ?_) (fun g2 => ?_)
 refine An (fun g3 => ?_) (fun g3 => ?_)
 refine An (fun g4 => ?_) (fun g4 => ?_)
 replace h := cT (oR (oR (oR g1 g2) g3) g4) h
 cases h
 exact eN (r3 trivial)
 replace h := cF (oR (oR (oR g1 g2) g3) g4) h
 refine eN ?_
 obtain ⟨a, h⟩ := ckS h
 refine An (oD a) ?_
 cases h
 exact (r1 (An ff (An lE (r1 trivial))))
 replace h := cT (oL (oR (oR g1 g2) g3)) h
 cases h
 exact eN (r3 trivial)
 replace h := cT (oL (oL (oR g1 g2))) h
 cases h
 exact eN (r3 trivial)
 replace h := cT (oL (oL (oL g1))) h
 cases h
 exact eN (r3 trivial)

theorem c_extreme_New' (p0 : Bool) (p1 : Int) (p2 : Int) (p3 : Int) (r : (api_Extreme × Int)) (h : extreme_New p0 p1 p2 p3 = r) : Contract Tryz.prog 50 [.sb p0, iI p1, iI p2, iI p3] [] (.tup [.agg (enc_api_Extreme r.1), iI r.2]) [] := by
 refine C0 Tryz.func50 Tryz.call50 1 ?_
 delta extreme_New at h
 refine eN (eN (cK (An (cW (c_extreme_good' p1 p2 p3 _ rfl) (r3 trivial)) (r1 ?_))))
 refine cD h (fun g1 h => ?_) (fun g1 h => ?_)
 cases h
 exact eN (r6 trivial)
 cases h
 exact eN (r6 trivial)

theorem c_chain_New' (p0 : Int) (p1 : Int) (r : (api_Chain × Int)) (h : chain_New p0 p1 = r) : Contract Tryz.prog 136 [iI p0, iI p1] [] (.tup [.agg (enc_api_Chain r.1), iI r.2]) [] := by
 refine C0 Tryz.func136 Tryz.call136 1 ?_
 delta chain_New at h
 refine eN (eN (eN (An (fun g1 => ?_) (fun g1 => ?_))))
 refine An (fun g2 => ?_) (fun g2 => ?_)
 refine An (fun g3 => ?_) (fun g3 => ?_)
 refine An (fun g4 => ?_) (fun g4 => ?_)
 replace h := cT (oR (oR (oR g1 g2) g3) g4) h
 cases h
 exact eN (r6 trivial)
 replace h := cF (oR (oR (oR g1 g2) g3) g4) h
 cases h
 exact eN (r6 trivial)
 replace h := cT (oL (oR (oR g1 g2) g3)) h
 cases h
 exact eN (r6 trivial)
 replace h := cT (oL (oL (oR g1 g2))) h
 cases h
 exact eN (r6 trivial)
 replace h := cT (oL (oL (oL g1))) h
 cases h
 exact eN (r6 trivial)

theorem c_sample_New (p0 : Int) (p1 : Int) (p2 : Int) (r : (api_Sample × Int)) (h : sample_New p0 p1 p2 = some r) : Contract Tryz.prog 51 [iI p0, iI p1, iI p2] [] (.tup [.agg [lF 5 (List.map enc_api_Chain r.1.Chains)], iI r.2]) [] := by
 refine C0 Tryz.func51 Tryz.call51 1 ?_
 delta sample_New at h
 refine eN (eN (eN (An (fun g1 => ?_) (fun g1 => ?_))))
 refine An (fun g2 => ?_) (fun g2 => ?_)
 replace h := cT (oR g1 g2) h
 cases h
 exact eN (r2 trivial)
 replace h := cF (oR g1 g2) h
 refine eN (eN ?_)
 replace h : sample_New_l3 p0 p1 p2 (0:Int) ([] : List api_Chain) = some r := h
 delta sample_New_l3 at h
 obtain ⟨n1, h⟩ := loopS h
 refine eX (Sum.inl ⟨(Int × (List api_Chain)) × Nat, fun q => [tM 1 (iI p1), tM 2 (iI p2), tM 6 (.ptr 1 0), tM 8 (.ptr 513 0), tM 18 (iI p0), tM 19 (iI q.1.1), tB 1 [.nilS], tB 513 [.own 1024], (.tok 1024, .tok 123 5 (List.map enc_api_Chain q.1.2))], fun q => loopN (fun (s : (Int × (List api_Chain))) => sample_New_l3s p0 p1 p2 s.1 s.2) q.2 q.1 = some r, fun q => q.2⟩) (An (eX [(1024, none)] (eX [] (eX (((0:Int), ([] : List api_Chain)), n1) (An h (r6 trivial))))) ?_)
 clear h
 refine fun q h => ?_
 obtain ⟨⟨b, a⟩, n1⟩ := q
 obtain ⟨m1, x1, hm1, h, hl1, hr1⟩ := loopN_step h
 replace hm1 : n1 = m1 + 1 := hm1
 subst hm1
 replace h : sample_New_l3s p0 p1 p2 b a = some x1 := h
 delta sample_New_l3s at h
 refine eN (cD h (fun g3 h => ?_) (fun g3 h => ?_))
 refine eN (cK (An (cW (c_chain_New' p1 p2 _ rfl) (r2 trivial)) (r1 ?_)))
 refine eN (cD h (fun g4 h => ?_) (fun g4 h => ?_))
 cases retS h hr1
 exact eN (r2 trivial)
 refine eN ?_
 obtain ⟨c, h⟩ := ckS h
 refine An (kA (oD c)) ?_
 exact eN (eX [(1024, some 1797)] (eX [] (eX (((w64 (b + (1:Int))), (a ++ [(chain_New p1 p2).1])), m1) (An (hl1 ((w64 (b + (1:Int))), (a ++ [(chain_New p1 p2).1])) (oJ h).symm) (An (Nat.lt_succ_self m1) (r5 (An lE trivial)))))))
 replace h := popS h hr1
 cases h
 exact eN (fr (r1 trivial))
 replace h := cT (oL g1) h
 cases h
 exact eN (r2 trivial)

theorem c_summary_New' (p0 : Int) (p1 : Int) (r : (api_Summary × Int)) (h : summary_New p0 p1 = r) : Contract Tryz.prog 52 [iI p0, iI p1] [] (.tup [.agg (enc_api_Summary r.1), iI r.2]) [] := by
 refine C0 Tryz.func52 Tryz.call52 1 ?_
 delta summary_New at h
 refine eN (eN (eN (An (fun g1 => ?_) (fun g1 => ?_))))
 refine An (fun g2 => ?_) (fun g2 => ?_)
 refine An (fun g3 => ?_) (fun g3 => ?_)
 refine An (fun g4 => ?_) (fun g4 => ?_)
 replace h := cT (oR (oR (oR g1 g2) g3) g4) h
 cases h
 exact eN (r5 trivial)
 replace h := cF (oR (oR (oR g1 g2) g3) g4) h
 cases h
 exact eN (r5 trivial)
 replace h := cT (oL (oR (oR g1 g2) g3)) h
 cases h
 exact eN (r5 trivial)
 replace h := cT (oL (oL (oR g1 g2))) h
 cases h
 exact eN (r5 trivial)
 replace h := cT (oL (oL (oL g1))) h
 cases h
 exact eN (r5 trivial)

theorem c_quantile_New' (p0 : Int) (p1 : Int) (p2 : Int) (p3 : Int) (r : (api_Quantile × Int)) (h : quantile_New p0 p1 p2 p3 = r) : Contract Tryz.prog 53 [iI p0, iI p1, iI p2, iI p3] [] (.tup [.agg (enc_api_Quantile r.1), iI r.2]) [] := by
 refine C0 Tryz.func53 Tryz.call53 1 ?_
 delta quantile_New at h
 refine eN (eN (cK (An (cW (c_quantile_good' p0 p1 p2 p3 _ rfl) (r4 trivial)) (r1 ?_))))
 refine cD h (fun g1 h => ?_) (fun g1 h => ?_)
 cases h
 exact eN (r6 trivial)
 cases h
 exact eN (r6 trivial)

theorem c_synopsis_New (p0 : api_Config) (p1 : Int) (r : (api_Synopsis × Int)) (h : synopsis_New p0 p1 = some r) : Contract Tryz.prog 24 [.agg (enc_api_Config p0), iI p1] [] (.tup [.agg (enc_api_Synopsis r.1), iI r.2]) [] := by
 refine C0 Tryz.func24 Tryz.call24 1 ?_
 delta synopsis_New at h
 refine eN (eN (cK (An (cW (c_config_Validate' p0 _ rfl) (r8 trivial)) (r1 ?_))))
 refine eN (cD h (fun g1 h => ?_) (fun g1 h => ?_))
 cases h
 exact eN (r48 (r8 (r2 trivial)))
 refine eN (cK (An (cW (c_synopsis_tick' p1 _ rfl) (r1 trivial)) (r1 ?_)))
 refine cD h (fun g2 h => ?_) (fun g2 h => ?_)
 cases h
 exact eN (r48 (r8 (r2 trivial)))
 refine eN (eN (eN (eN (eN (eX (some (⟨Int × Int × Int × Int × (List api_Item) × Int × Int × Int × Int × (List api_Bucket) × Int × Int × Int × Int × Int × (List api_Bucket) × Int × Int × Int × Int × Int × Int × (List api_Mark) × Int × Int × Int × Int × Int × (List api_Mark) × Int × Int × Int × (List api_Wide) × Int × (List Int) × Bool × Int × Int × Int × (List api_Item) × (List api_Chain) × Int × Int × Int × (List api_Tuple) × Int × Int × Int × Int × (List api_Block), fun q => [tM 4 (.ptr 2 0), tM 7 (.ptr 1027 0), tM 8 (iI q.1), tB 2 [iI (0:Int), iI (0:Int), iI (0:Int), iI (0:Int), iI (0:Int), iI (0:Int), iI (0:Int), iI (0:Int), iI (0:Int), iI (0:Int), iI (0:Int), .nilS, iI (0:Int), iI (0:Int), iI (0:Int), iI (0:Int), .nilS, iI (0:Int), iI (0:Int), iI (0:Int), iI (0:Int), iI (0:Int), .nilS, iI (0:Int), iI (0:Int), iI (0:Int), iI (0:Int), iI (0:Int), iI (0:Int), .nilS, iI (0:Int), iI (0:Int), iI (0:Int), iI (0:Int), iI (0:Int), .nilS, iI (0:Int), iI (0:Int), iI (0:Int), .nilS, iI (0:Int), .nilS, .bool false, iI (0:Int), iI (0:Int), iI (0:Int), .nilS, .nilS, iI (0:Int), iI (0:Int), iI (0:Int), .nilS, iI (0:Int), iI (0:Int), iI (0:Int), iI (0:Int), .nilS], tB 1027 (List.append (enc_api_Config p0) (iI q.2.1 :: (iI q.2.2.1 :: (iI q.2.2.2.1 :: (lF 2 (List.map enc_api_Item q.2.2.2.2.1) :: (iI q.2.2.2.2.2.1 :: (iI q.2.2.2.2.2.2.1 :: (iI q.2.2.2.2.2.2.2.1 :: (iI q.2.2.2.2.2.2.2.2.1 :: (lF 2 (List.map enc_api_Bucket q.2.2.2.2.2.2.2.2.2.1) :: (iI q.2.2.2.2.2.2.2.2.2.2.1 :: (iI q.2.2.2.2.2.2.2.2.2.2.2.1 :: (iI q.2.2.2.2.2.2.2.2.2.2.2.2.1 :: (iI q.2.2.2.2.2.2.2.2.2.2.2.2.2.1 :: (iI q.2.2.2.2.2.2.2.2.2.2.2.2.2.2.1 :: (lF 2 (List.map enc_api_Bucket q.2.2.2.2.2.2.2.2.2.2.2.2.2.2.2.1) :: (iI q.2.2.2.2.2.2.2.2.2.2.2.2.2.2.2.2.1 :: (iI q.2.2.2.2.2.2.2.2.2.2.2.2.2.2.2.2.2.1 :: (iI q.2.2.2.2.2.2.2.2.2.2.2.2.2.2.2.2.2.2.1 :: (iI q.2.2.2.2.2.2.2.2.2.2.2.2.2.2.2.2.2.2.2.1 :: (iI q.2.2.2.2.2.2.2.2.2.2.2.2.2.2.2.2.2.2.2.2.1 :: (iI q.2.2.2.2.2.2.2.2.2.2.2.2.2.2.2.2.2.2.2.2.2.1 :: (lF 7 (List.map enc_api_Mark q.2.2.2.2.2.2.2.2.2.2.2.2.2.2.2.2.2.2.2.2.2.2.1) :: (iI q.2.2.2.2.2.2.2.2.2.2.2.2.2.2.2.2.2.2.2.2.2.2.2.1 :: (iI q.2.2.2.2.2.2.2.2.2.2.2.2.2.2.2.2.2.2.2.2.2.2.2.2.1 :: (iI q.2.2.2.2.2.2.2.2.2.2.2.2.2.2.2.2.2.2.2.2.2.2.2.2.2.1 :: (iI q.2.2.2.2.2.2.2.2.2.2.2.2.2.2.2.2.2.2.2.2.2.2.2.2.2.2.1 :: (iI q.2.2.2.2.2.2.2.2.2.2.2.2.2.2.2.2.2.2.2.2.2.2.2.2.2.2.2.1 :: (lF 7 (List.map enc_api_Mark q.2.2.2.2.2.2.2.2.2.2.2.2.2.2.2.2.2.2.2.2.2.2.2.2.2.2.2.2.1) :: (iI q.2.2.2.2.2.2.2.2.2.2.2.2.2.2.2.2.2.2.2.2.2.2.2.2.2.2.2.2.2.1 :: (iI q.2.2.2.2.2.2.2.2.2.2.2.2.2.2.2.2.2.2.2.2.2.2.2.2.2.2.2.2.2.2.1 :: (iI q.2.2.2.2.2.2.2.2.2.2.2.2.2.2.2.2.2.2.2.2.2.2.2.2.2.2.2.2.2.2.2.1 :: (lF 2 (List.map enc_api_Wide q.2.2.2.2.2.2.2.2.2.2.2.2.2.2.2.2.2.2.2.2.2.2.2.2.2.2.2.2.2.2.2.2.1) :: (iI q.2.2.2.2.2.2.2.2.2.2.2.2.2.2.2.2.2.2.2.2.2.2.2.2.2.2.2.2.2.2.2.2.2.1 :: (lF 1 (List.map (eI .i64) q.2.2.2.2.2.2.2.2.2.2.2.2.2.2.2.2.2.2.2.2.2.2.2.2.2.2.2.2.2.2.2.2.2.2.1) :: (.sb q.2.2.2.2.2.2.2.2.2.2.2.2.2.2.2.2.2.2.2.2.2.2.2.2.2.2.2.2.2.2.2.2.2.2.2.1 :: (iI q.2.2.2.2.2.2.2.2.2.2.2.2.2.2.2.2.2.2.2.2.2.2.2.2.2.2.2.2.2.2.2.2.2.2.2.2.1 :: (iI q.2.2.2.2.2.2.2.2.2.2.2.2.2.2.2.2.2.2.2.2.2.2.2.2.2.2.2.2.2.2.2.2.2.2.2.2.2.1 :: (iI q.2.2.2.2.2.2.2.2.2.2.2.2.2.2.2.2.2.2.2.2.2.2.2.2.2.2.2.2.2.2.2.2.2.2.2.2.2.2.1 :: (lF 2 (List.map enc_api_Item q.2.2.2.2.2.2.2.2.2.2.2.2.2.2.2.2.2.2.2.2.2.2.2.2.2.2.2.2.2.2.2.2.2.2.2.2.2.2.2.1) :: (lF 5 (List.map enc_api_Chain q.2.2.2.2.2.2.2.2.2.2.2.2.2.2.2.2.2.2.2.2.2.2.2.2.2.2.2.2.2.2.2.2.2.2.2.2.2.2.2.2.1) :: (iI q.2.2.2.2.2.2.2.2.2.2.2.2.2.2.2.2.2.2.2.2.2.2.2.2.2.2.2.2.2.2.2.2.2.2.2.2.2.2.2.2.2.1 :: (iI q.2.2.2.2.2.2.2.2.2.2.2.2.2.2.2.2.2.2.2.2.2.2.2.2.2.2.2.2.2.2.2.2.2.2.2.2.2.2.2.2.2.2.1 :: (iI q.2.2.2.2.2.2.2.2.2.2.2.2.2.2.2.2.2.2.2.2.2.2.2.2.2.2.2.2.2.2.2.2.2.2.2.2.2.2.2.2.2.2.2.1 :: (lF 3 (List.map enc_api_Tuple q.2.2.2.2.2.2.2.2.2.2.2.2.2.2.2.2.2.2.2.2.2.2.2.2.2.2.2.2.2.2.2.2.2.2.2.2.2.2.2.2.2.2.2.2.1) :: (iI q.2.2.2.2.2.2.2.2.2.2.2.2.2.2.2.2.2.2.2.2.2.2.2.2.2.2.2.2.2.2.2.2.2.2.2.2.2.2.2.2.2.2.2.2.2.1 :: (iI q.2.2.2.2.2.2.2.2.2.2.2.2.2.2.2.2.2.2.2.2.2.2.2.2.2.2.2.2.2.2.2.2.2.2.2.2.2.2.2.2.2.2.2.2.2.2.1 :: (iI q.2.2.2.2.2.2.2.2.2.2.2.2.2.2.2.2.2.2.2.2.2.2.2.2.2.2.2.2.2.2.2.2.2.2.2.2.2.2.2.2.2.2.2.2.2.2.2.1 :: (iI q.2.2.2.2.2.2.2.2.2.2.2.2.2.2.2.2.2.2.2.2.2.2.2.2.2.2.2.2.2.2.2.2.2.2.2.2.2.2.2.2.2.2.2.2.2.2.2.2.1 :: (lF 5 (List.map enc_api_Block q.2.2.2.2.2.2.2.2.2.2.2.2.2.2.2.2.2.2.2.2.2.2.2.2.2.2.2.2.2.2.2.2.2.2.2.2.2.2.2.2.2.2.2.2.2.2.2.2.2) :: []))))))))))))))))))))))))))))))))))))))))))))))))))], fun q => synopsis_New_j4 p0 q.1 q.2.1 q.2.2.1 q.2.2.2.1 q.2.2.2.2.1 q.2.2.2.2.2.1 q.2.2.2.2.2.2.1 q.2.2.2.2.2.2.2.1 q.2.2.2.2.2.2.2.2.1 q.2.2.2.2.2.2.2.2.2.1 q.2.2.2.2.2.2.2.2.2.2.1 q.2.2.2.2.2.2.2.2.2.2.2.1 q.2.2.2.2.2.2.2.2.2.2.2.2.1 q.2.2.2.2.2.2.2.2.2.2.2.2.2.1 q.2.2.2.2.2.2.2.2.2.2.2.2.2.2.1 q.2.2.2.2.2.2.2.2.2.2.2.2.2.2.2.1 q.2.2.2.2.2.2.2.2.2.2.2.2.2.2.2.2.1 q.2.2.2.2.2.2.2.2.2.2.2.2.2.2.2.2.2.1 q.2.2.2.2.2.2.2.2.2.2.2.2.2.2.2.2.2.2.1 q.2.2.2.2.2.2.2.2.2.2.2.2.2.2.2.2.2.2.2.1 q.2.2.2.2.2.2.2.2.2.2.2.2.2.2.2.2.2.2.2.2.1 q.2.2.2.2.2.2.2.2.2.2.2.2.2.2.2.2.2.2.2.2.2.1 q.2.2.2.2.2.2.2.2.2.2.2.2.2.2.2.2.2.2.2.2.2.2.1 q.2.2.2.2.2.2.2.2.2.2.2.2.2.2.2.2.2.2.2.2.2.2.2.1 q.2.2.2.2.2.2.2.2.2.2.2.2.2.2.2.2.2.2.2.2.2.2.2.2.1 q.2.2.2.2.2.2.2.2.2.2.2.2.2.2.2.2.2.2.2.2.2.2.2.2.2.1 q.2.2.2.2.2.2.2.2.2.2.2.2.2.2.2.2.2.2.2.2.2.2.2.2.2.2.1 q.2.2.2.2.2.2.2.2.2.2.2.2.2.2.2.2.2.2.2.2.2.2.2.2.2.2.2.1 q.2.2.2.2.2.2.2.2.2.2.2.2.2.2.2.2.2.2.2.2.2.2.2.2.2.2.2.2.1 q.2.2.2.2.2.2.2.2.2.2.2.2.2.2.2.2.2.2.2.2.2.2.2.2.2.2.2.2.2.1 q.2.2.2.2.2.2.2.2.2.2.2.2.2.2.2.2.2.2.2.2.2.2.2.2.2.2.2.2.2.2.1 q.2.2.2.2.2.2.2.2.2.2.2.2.2.2.2.2.2.2.2.2.2.2.2.2.2.2.2.2.2.2.2.1 q.2.2.2.2.2.2.2.2.2.2.2.2.2.2.2.2.2.2.2.2.2.2.2.2.2.2.2.2.2.2.2.2.1 q.2.2.2.2.2.2.2.2.2.2.2.2.2.2.2.2.2.2.2.2.2.2.2.2.2.2.2.2.2.2.2.2.2.1 q.2.2.2.2.2.2.2.2.2.2.2.2.2.2.2.2.2.2.2.2.2.2.2.2.2.2.2.2.2.2.2.2.2.2.1 q.2.2.2.2.2.2.2.2.2.2.2.2.2.2.2.2.2.2.2.2.2.2.2.2.2.2.2.2.2.2.2.2.2.2.2.1 q.2.2.2.2.2.2.2.2.2.2.2.2.2.2.2.2.2.2.2.2.2.2.2.2.2.2.2.2.2.2.2.2.2.2.2.2.1 q.2.2.2.2.2.2.2.2.2.2.2.2.2.2.2.2.2.2.2.2.2.2.2.2.2.2.2.2.2.2.2.2.2.2.2.2.2.1 q.2.2.2.2.2.2.2.2.2.2.2.2.2.2.2.2.2.2.2.2.2.2.2.2.2.2.2.2.2.2.2.2.2.2.2.2.2.2.1 q.2.2.2.2.2.2.2.2.2.2.2.2.2.2.2.2.2.2.2.2.2.2.2.2.2.2.2.2.2.2.2.2.2.2.2.2.2.2.2.1 q.2.2.2.2.2.2.2.2.2.2.2.2.2.2.2.2.2.2.2.2.2.2.2.2.2.2.2.2.2.2.2.2.2.2.2.2.2.2.2.2.1 q.2.2.2.2.2.2.2.2.2.2.2.2.2.2.2.2.2.2.2.2.2.2.2.2.2.2.2.2.2.2.2.2.2.2.2.2.2.2.2.2.2.1 q.2.2.2.2.2.2.2.2.2.2.2.2.2.2.2.2.2.2.2.2.2.2.2.2.2.2.2.2.2.2.2.2.2.2.2.2.2.2.2.2.2.2.1 q.2.2.2.2.2.2.2.2.2.2.2.2.2.2.2.2.2.2.2.2.2.2.2.2.2.2.2.2.2.2.2.2.2.2.2.2.2.2.2.2.2.2.2.1 q.2.2.2.2.2.2.2.2.2.2.2.2.2.2.2.2.2.2.2.2.2.2.2.2.2.2.2.2.2.2.2.2.2.2.2.2.2.2.2.2.2.2.2.2.1 q.2.2.2.2.2.2.2.2.2.2.2.2.2.2.2.2.2.2.2.2.2.2.2.2.2.2.2.2.2.2.2.2.2.2.2.2.2.2.2.2.2.2.2.2.2.1 q.2.2.2.2.2.2.2.2.2.2.2.2.2.2.2.2.2.2.2.2.2.2.2.2.2.2.2.2.2.2.2.2.2.2.2.2.2.2.2.2.2.2.2.2.2.2.1 q.2.2.2.2.2.2.2.2.2.2.2.2.2.2.2.2.2.2.2.2.2.2.2.2.2.2.2.2.2.2.2.2.2.2.2.2.2.2.2.2.2.2.2.2.2.2.2.1 q.2.2.2.2.2.2.2.2.2.2.2.2.2.2.2.2.2.2.2.2.2.2.2.2.2.2.2.2.2.2.2.2.2.2.2.2.2.2.2.2.2.2.2.2.2.2.2.2.1 q.2.2.2.2.2.2.2.2.2.2.2.2.2.2.2.2.2.2.2.2.2.2.2.2.2.2.2.2.2.2.2.2.2.2.2.2.2.2.2.2.2.2.2.2.2.2.2.2.2 = some r, fun _ => 0⟩, 1000000)) (An ?_ ?_))))))
 refine cD h (fun g3 h => ?_) (fun g3 h => ?_)
 refine eN (cK (An (cW (c_recent_New' p0.W p0.Cap p1 _ rfl) (r3 trivial)) (r1 ?_)))
 exact jT ((recent_New p0.W p0.Cap p1).2, (recent_New p0.W p0.Cap p1).1.W, (recent_New p0.W p0.Cap p1).1.Cap, (recent_New p0.W p0.Cap p1).1.Now, (recent_New p0.W p0.Cap p1).1.Items, (0:Int), (0:Int), (0:Int), (0:Int), ([] : List api_Bucket), (0:Int), (0:Int), (0:Int), (0:Int), (0:Int), ([] : List api_Bucket), (0:Int), (0:Int), (0:Int), (0:Int), (0:Int), (0:Int), ([] : List api_Mark), (0:Int), (0:Int), (0:Int), (0:Int), (0:Int), ([] : List api_Mark), (0:Int), (0:Int), (0:Int), ([] : List api_Wide), (0:Int), ([] : List Int), false, (0:Int), (0:Int), (0:Int), ([] : List api_Item), ([] : List api_Chain), (0:Int), (0:Int), (0:Int), ([] : List api_Tuple), (0:Int), (0:Int), (0:Int), (0:Int), ([] : List api_Block)) (An h (r48 (r8 (r3 (fr (r32 (r12 (r1 trivial))))))))
 refine eN (eN (cD h (fun g4 h => ?_) (fun g4 h => ?_)))
 refine eN (cK (An (cW (c_count_New' p0.W p0.K p0.Cap p1 _ rfl) (r4 trivial)) (r1 ?_)))
 exact jT ((count_New p0.W p0.K p0.Cap p1).2, (0:Int), (0:Int), (0:Int), ([] : List api_Item), (count_New p0.W p0.K p0.Cap p1).1.W, (count_New p0.W p0.K p0.Cap p1).1.K, (count_New p0.W p0.K p0.Cap p1).1.Cap, (count_New p0.W p0.K p0.Cap p1).1.Now, (count_New p0.W p0.K p0.Cap p1).1.Buckets, (0:Int), (0:Int), (0:Int), (0:Int), (0:Int), ([] : List api_Bucket), (0:Int), (0:Int), (0:Int), (0:Int), (0:Int), (0:Int), ([] : List api_Mark), (0:Int), (0:Int), (0:Int), (0:Int), (0:Int), ([] : List api_Mark), (0:Int), (0:Int), (0:Int), ([] : List api_Wide), (0:Int), ([] : List Int), false, (0:Int), (0:Int), (0:Int), ([] : List api_Item), ([] : List api_Chain), (0:Int), (0:Int), (0:Int), ([] : List api_Tuple), (0:Int), (0:Int), (0:Int), (0:Int), ([] : List api_Block)) (An h (r64 (fr (r32 (r8 trivial)))))
 refine eN (eN (cD h (fun g5 h => ?_) (fun g5 h => ?_)))
 refine eN (cK (An (cW (c_sum_New' p0.W p0.K p0.Cap p0.Max p1 _ rfl) (r5 trivial)) (r1 ?_)))
 exact jT ((sum_New p0.W p0.K p0.Cap p0.Max p1).2, (0:Int), (0:Int), (0:Int), ([] : List api_Item), (0:Int), (0:Int), (0:Int), (0:Int), ([] : List api_Bucket), (sum_New p0.W p0.K p0.Cap p0.Max p1).1.W, (sum_New p0.W p0.K p0.Cap p0.Max p1).1.K, (sum_New p0.W p0.K p0.Cap p0.Max p1).1.Cap, (sum_New p0.W p0.K p0.Cap p0.Max p1).1.Max, (sum_New p0.W p0.K p0.Cap p0.Max p1).1.Now, (sum_New p0.W p0.K p0.Cap p0.Max p1).1.Buckets, (0:Int), (0:Int), (0:Int), (0:Int), (0:Int), (0:Int), ([] : List api_Mark), (0:Int), (0:Int), (0:Int), (0:Int), (0:Int), ([] : List api_Mark), (0:Int), (0:Int), (0:Int), ([] : List api_Wide), (0:Int), ([] : List Int), false, (0:Int), (0:Int), (0:Int), ([] : List api_Item), ([] : List api_Chain), (0:Int), (0:Int), (0:Int), ([] : List api_Tuple), (0:Int), (0:Int), (0:Int), (0:Int), ([] : List api_Block)) (An h (r64 (r6 (fr (r32 (r2 trivial))))))
 refine eN (eN (cD h (fun g6 h => ?_) (fun g6 h => ?_)))
 refine eN (cK (An (cW (c_smooth_New' p0.Agg p0.W p0.K p0.Cap p1 _ rfl) (r5 trivial)) (r1 ?_)))
 exact jT ((smooth_New p0.Agg p0.W p0.K p0.Cap p1).2, (0:Int), (0:Int), (0:Int), ([] : List api_Item), (0:Int), (0:Int), (0:Int), (0:Int), ([] : List api_Bucket), (0:Int), (0:Int), (0:Int), (0:Int), (0:Int), ([] : List api_Bucket), (smooth_New p0.Agg p0.W p0.K p0.Cap p1).1.Agg, (smooth_New p0.Agg p0.W p0.K p0.Cap p1).1.W, (smooth_New p0.Agg p0.W p0.K p0.Cap p1).1.K, (smooth_New p0.Agg p0.W p0.K p0.Cap p1).1.Cap, (smooth_New p0.Agg p0.W p0.K p0.Cap p1).1.Now, (smooth_New p0.Agg p0.W p0.K p0.Cap p1).1.Seq, (smooth_New p0.Agg p0.W p0.K p0.Cap p1).1.Marks, (0:Int), (0:Int), (0:Int), (0:Int), (0:Int), ([] : List api_Mark), (0:Int), (0:Int), (0:Int), ([] : List api_Wide), (0:Int), ([] : List Int), false, (0:Int), (0:Int), (0:Int), ([] : List api_Item), ([] : List api_Chain), (0:Int), (0:Int), (0:Int), ([] : List api_Tuple), (0:Int), (0:Int), (0:Int), (0:Int), ([] : List api_Block)) (An h (r64 (r12 (r1 (fr (r24 (r3 trivial)))))))
 refine eN (eN (cD h (fun g7 h => ?_) (fun g7 h => ?_)))
 refine eN (cK (An (cW (c_spread_New' p0.W p0.K p0.Cap p1 _ rfl) (r4 trivial)) (r1 ?_)))
 exact jT ((spread_New p0.W p0.K p0.Cap p1).2, (0:Int), (0:Int), (0:Int), ([] : List api_Item), (0:Int), (0:Int), (0:Int), (0:Int), ([] : List api_Bucket), (0:Int), (0:Int), (0:Int), (0:Int), (0:Int), ([] : List api_Bucket), (0:Int), (0:Int), (0:Int), (0:Int), (0:Int), (0:Int), ([] : List api_Mark), (spread_New p0.W p0.K p0.Cap p1).1.W, (spread_New p0.W p0.K p0.Cap p1).1.K, (spread_New p0.W p0.K p0.Cap p1).1.Cap, (spread_New p0.W p0.K p0.Cap p1).1.Now, (spread_New p0.W p0.K p0.Cap p1).1.Seq, (spread_New p0.W p0.K p0.Cap p1).1.Marks, (0:Int), (0:Int), (0:Int), ([] : List api_Wide), (0:Int), ([] : List Int), false, (0:Int), (0:Int), (0:Int), ([] : List api_Item), ([] : List api_Chain), (0:Int), (0:Int), (0:Int), ([] : List api_Tuple), (0:Int), (0:Int), (0:Int), (0:Int), ([] : List api_Block)) (An h (r64 (r16 (r3 (fr (r16 (r5 trivial)))))))
 refine eN (eN (cD h (fun g8 h => ?_) (fun g8 h => ?_)))
 refine eN ?_
 obtain ⟨a, a7, h⟩ := bS h
 refine cK (An (cW (c_poly_New p0.P p1 a a7) (r2 trivial)) (r1 ?_))
 exact jT (a.2, (0:Int), (0:Int), (0:Int), ([] : List api_Item), (0:Int), (0:Int), (0:Int), (0:Int), ([] : List api_Bucket), (0:Int), (0:Int), (0:Int), (0:Int), (0:Int), ([] : List api_Bucket), (0:Int), (0:Int), (0:Int), (0:Int), (0:Int), (0:Int), ([] : List api_Mark), (0:Int), (0:Int), (0:Int), (0:Int), (0:Int), ([] : List api_Mark), a.1.P, a.1.Land, a.1.Now, a.1.Moments, (0:Int), ([] : List Int), false, (0:Int), (0:Int), (0:Int), ([] : List api_Item), ([] : List api_Chain), (0:Int), (0:Int), (0:Int), ([] : List api_Tuple), (0:Int), (0:Int), (0:Int), (0:Int), ([] : List api_Block)) (An h (r64 (r16 (r7 (fr (r16 (r1 trivial)))))))
 refine eN (eN (cD h (fun g9 h => ?_) (fun g9 h => ?_)))
 refine eN ?_
 obtain ⟨b, a8, h⟩ := bS h
 refine cK (An (cW (c_halve_New p0.W p1 b a8) (r2 trivial)) (r1 ?_))
 exact jT (b.2, (0:Int), (0:Int), (0:Int), ([] : List api_Item), (0:Int), (0:Int), (0:Int), (0:Int), ([] : List api_Bucket), (0:Int), (0:Int), (0:Int), (0:Int), (0:Int), ([] : List api_Bucket), (0:Int), (0:Int), (0:Int), (0:Int), (0:Int), (0:Int), ([] : List api_Mark), (0:Int), (0:Int), (0:Int), (0:Int), (0:Int), ([] : List api_Mark), (0:Int), (0:Int), (0:Int), ([] : List api_Wide), b.1.Now, b.1.Sums, false, (0:Int), (0:Int), (0:Int), ([] : List api_Item), ([] : List api_Chain), (0:Int), (0:Int), (0:Int), ([] : List api_Tuple), (0:Int), (0:Int), (0:Int), (0:Int), ([] : List api_Block)) (An h (r64 (r24 (r1 (fr (r12 (r3 trivial)))))))
 refine eN (eN (cD h (fun g10 h => ?_) (fun g10 h => ?_)))
 refine eN (cK (An (cW (c_extreme_New' (p0.Max == (1:Int)) p0.W p0.Cap p1 _ rfl) (r4 trivial)) (r1 ?_)))
 exact jT ((extreme_New (p0.Max == (1:Int)) p0.W p0.Cap p1).2, (0:Int), (0:Int), (0:Int), ([] : List api_Item), (0:Int), (0:Int), (0:Int), (0:Int), ([] : List api_Bucket), (0:Int), (0:Int), (0:Int), (0:Int), (0:Int), ([] : List api_Bucket), (0:Int), (0:Int), (0:Int), (0:Int), (0:Int), (0:Int), ([] : List api_Mark), (0:Int), (0:Int), (0:Int), (0:Int), (0:Int), ([] : List api_Mark), (0:Int), (0:Int), (0:Int), ([] : List api_Wide), (0:Int), ([] : List Int), (extreme_New (p0.Max == (1:Int)) p0.W p0.Cap p1).1.Max, (extreme_New (p0.Max == (1:Int)) p0.W p0.Cap p1).1.W, (extreme_New (p0.Max == (1:Int)) p0.W p0.Cap p1).1.Cap, (extreme_New (p0.Max == (1:Int)) p0.W p0.Cap p1).1.Now, (extreme_New (p0.Max == (1:Int)) p0.W p0.Cap p1).1.Items, ([] : List api_Chain), (0:Int), (0:Int), (0:Int), ([] : List api_Tuple), (0:Int), (0:Int), (0:Int), (0:Int), ([] : List api_Block)) (An h (r64 (r24 (r6 (fr (r8 (r2 trivial)))))))
 refine eN (eN (cD h (fun g11 h => ?_) (fun g11 h => ?_)))
 refine eN ?_
 obtain ⟨c, a9, h⟩ := bS h
 refine cK (An (cW (c_sample_New p0.Chains p0.W p0.Cap c a9) (r3 trivial)) (r1 ?_))
 exact jT (c.2, (0:Int), (0:Int), (0:Int), ([] : List api_Item), (0:Int), (0:Int), (0:Int), (0:Int), ([] : List api_Bucket), (0:Int), (0:Int), (0:Int), (0:Int), (0:Int), ([] : List api_Bucket), (0:Int), (0:Int), (0:Int), (0:Int), (0:Int), (0:Int), ([] : List api_Mark), (0:Int), (0:Int), (0:Int), (0:Int), (0:Int), ([] : List api_Mark), (0:Int), (0:Int), (0:Int), ([] : List api_Wide), (0:Int), ([] : List Int), false, (0:Int), (0:Int), (0:Int), ([] : List api_Item), c.1.Chains, (0:Int), (0:Int), (0:Int), ([] : List api_Tuple), (0:Int), (0:Int), (0:Int), (0:Int), ([] : List api_Block)) (An h (r64 (r24 (r7 (fr (r8 (r1 trivial)))))))
 refine eN (eN (cD h (fun g12 h => ?_) (fun g12 h => ?_)))
 refine eN (cK (An (cW (c_summary_New' p0.K p0.Cap _ rfl) (r2 trivial)) (r1 ?_)))
 exact jT ((summary_New p0.K p0.Cap).2, (0:Int), (0:Int), (0:Int), ([] : List api_Item), (0:Int), (0:Int), (0:Int), (0:Int), ([] : List api_Bucket), (0:Int), (0:Int), (0:Int), (0:Int), (0:Int), ([] : List api_Bucket), (0:Int), (0:Int), (0:Int), (0:Int), (0:Int), (0:Int), ([] : List api_Mark), (0:Int), (0:Int), (0:Int), (0:Int), (0:Int), ([] : List api_Mark), (0:Int), (0:Int), (0:Int), ([] : List api_Wide), (0:Int), ([] : List Int), false, (0:Int), (0:Int), (0:Int), ([] : List api_Item), ([] : List api_Chain), (summary_New p0.K p0.Cap).1.K, (summary_New p0.K p0.Cap).1.Cap, (summary_New p0.K p0.Cap).1.N, (summary_New p0.K p0.Cap).1.Tuples, (0:Int), (0:Int), (0:Int), (0:Int), ([] : List api_Block)) (An h (r64 (r32 (r3 (fr (r5 trivial))))))
 refine eN (eN (cD h (fun g13 h => ?_) (fun g13 h => ?_)))
 refine eN (cK (An (cW (c_quantile_New' p0.W p0.K p0.Cap p1 _ rfl) (r4 trivial)) (r1 ?_)))
 exact jT ((quantile_New p0.W p0.K p0.Cap p1).2, (0:Int), (0:Int), (0:Int), ([] : List api_Item), (0:Int), (0:Int), (0:Int), (0:Int), ([] : List api_Bucket), (0:Int), (0:Int), (0:Int), (0:Int), (0:Int), ([] : List api_Bucket), (0:Int), (0:Int), (0:Int), (0:Int), (0:Int), (0:Int), ([] : List api_Mark), (0:Int), (0:Int), (0:Int), (0:Int), (0:Int), ([] : List api_Mark), (0:Int), (0:Int), (0:Int), ([] : List api_Wide), (0:Int), ([] : List Int), false, (0:Int), (0:Int), (0:Int), ([] : List api_Item), ([] : List api_Chain), (0:Int), (0:Int), (0:Int), ([] : List api_Tuple), (quantile_New p0.W p0.K p0.Cap p1).1.W, (quantile_New p0.W p0.K p0.Cap p1).1.K, (quantile_New p0.W p0.K p0.Cap p1).1.Cap, (quantile_New p0.W p0.K p0.Cap p1).1.Now, (quantile_New p0.W p0.K p0.Cap p1).1.Blocks) (An h (r64 (r32 (r8 (fr trivial)))))
 exact jT ((0:Int), (0:Int), (0:Int), (0:Int), ([] : List api_Item), (0:Int), (0:Int), (0:Int), (0:Int), ([] : List api_Bucket), (0:Int), (0:Int), (0:Int), (0:Int), (0:Int), ([] : List api_Bucket), (0:Int), (0:Int), (0:Int), (0:Int), (0:Int), (0:Int), ([] : List api_Mark), (0:Int), (0:Int), (0:Int), (0:Int), (0:Int), ([] : List api_Mark), (0:Int), (0:Int), (0:Int), ([] : List api_Wide), (0:Int), ([] : List Int), false, (0:Int), (0:Int), (0:Int), ([] : List api_Item), ([] : List api_Chain), (0:Int), (0:Int), (0:Int), ([] : List api_Tuple), (0:Int), (0:Int), (0:Int), (0:Int), ([] : List api_Block)) (An h (r64 (r32 (r8 (r1 trivial)))))
 clear h
 refine fun q h => ?_
 obtain ⟨b0, a5, a6, d, e, f, g, i, j, k, l, m, n, o, p, s, t, u, v, w, x, y, z, A, B, C, D, E, F, G, H, I, J, L, M, O, Q, R, S, T, U, V, X, Y, Z, a0, a1, a2, a3, a4⟩ := q
 replace h : synopsis_New_j4 p0 b0 a5 a6 d e f g i j k l m n o p s t u v w x y z A B C D E F G H I J L M O Q R S T U V X Y Z a0 a1 a2 a3 a4 = some r := h
 delta synopsis_New_j4 at h
 refine eN (cD h (fun g14 h => ?_) (fun g14 h => ?_))
 cases h
 exact eN (r48 (r8 (r2 trivial)))
 cases h
 exact eN (r8 (r3 (fr (r4 (fr (r5 (fr (r6 (fr (r5 (fr (r3 (fr (r1 (fr (r4 (fr (fr (r3 (fr (r4 (fr (r1 trivial)))))))))))))))))))))))

theorem c_synopsis_Records (p0 : api_Synopsis) (r : Int) (h : synopsis_Records p0 = some r) : Contract Tryz.prog 31 [.agg (enc_api_Synopsis p0)] [] (iI r) [] := by
 refine C0 Tryz.func31 Tryz.call31 1 ?_
 delta synopsis_Records at h
 refine eN (eN ?_)
 obtain ⟨g, i, h⟩ := bS h
 refine cK (An (cW (c_synopsis_Validate p0 g i) (r8 (r3 (fr (r4 (fr (r5 (fr (r6 (fr (r5 (fr (r3 (fr (r1 (fr (r4 (fr (fr (r3 (fr (r4 (fr trivial))))))))))))))))))))))) (r1 ?_))
 refine cD h (fun g1 h => ?_) (fun g1 h => ?_)
 cases h
 exact eN (r1 trivial)
 refine eN (eX [iI (p0.Recent.Items.length : Int)] (An (lenS enc_api_Item p0.Recent.Items) ?_))
 refine eX [iI (p0.Count.Buckets.length : Int)] (An (lenS enc_api_Bucket p0.Count.Buckets) ?_)
 refine eX [iI (p0.Sum.Buckets.length : Int)] (An (lenS enc_api_Bucket p0.Sum.Buckets) ?_)
 refine eX [iI (p0.Smooth.Marks.length : Int)] (An (lenS enc_api_Mark p0.Smooth.Marks) ?_)
 refine eX [iI (p0.Spread.Marks.length : Int)] (An (lenS enc_api_Mark p0.Spread.Marks) ?_)
 refine eX [iI (p0.Poly.Moments.length : Int)] (An (lenS enc_api_Wide p0.Poly.Moments) ?_)
 refine eX [iI (p0.Halve.Sums.length : Int)] (An (lenS (eI .i64) p0.Halve.Sums) ?_)
 refine eX [iI (p0.Extreme.Items.length : Int)] (An (lenS enc_api_Item p0.Extreme.Items) ?_)
 refine eX [iI (p0.Summary.Tuples.length : Int)] (An (lenS enc_api_Tuple p0.Summary.Tuples) ?_)
 refine eN (eX [iI (p0.Sample.Chains.length : Int)] (An (lenS enc_api_Chain p0.Sample.Chains) ?_))
 replace h : synopsis_Records_l3 p0 (w64 ((w64 ((w64 ((w64 ((w64 ((w64 ((w64 ((w64 ((p0.Recent.Items.length : Int) + (p0.Count.Buckets.length : Int))) + (p0.Sum.Buckets.length : Int))) + (p0.Smooth.Marks.length : Int))) + (p0.Spread.Marks.length : Int))) + (p0.Poly.Moments.length : Int))) + (p0.Halve.Sums.length : Int))) + (p0.Extreme.Items.length : Int))) + (p0.Summary.Tuples.length : Int))) (0:Int) = some r := h
 delta synopsis_Records_l3 at h
 obtain ⟨n1, h⟩ := loopS h
 refine eX (Sum.inl ⟨(Int × Int) × Nat, fun q => [tM 1 (.ptr 1 0), tM 3 (iI q.1.1), tM 57 (lF 5 (List.map enc_api_Chain p0.Sample.Chains)), tM 58 (iI (p0.Sample.Chains.length : Int)), tM 59 (iI q.1.2), tB 1 (enc_api_Synopsis p0)], fun q => loopN (fun (s : (Int × Int)) => synopsis_Records_l3s p0 s.1 s.2) q.2 q.1 = some r, fun q => q.2⟩) (An (eX [] (eX [] (eX (((w64 ((w64 ((w64 ((w64 ((w64 ((w64 ((w64 ((w64 ((p0.Recent.Items.length : Int) + (p0.Count.Buckets.length : Int))) + (p0.Sum.Buckets.length : Int))) + (p0.Smooth.Marks.length : Int))) + (p0.Spread.Marks.length : Int))) + (p0.Poly.Moments.length : Int))) + (p0.Halve.Sums.length : Int))) + (p0.Extreme.Items.length : Int))) + (p0.Summary.Tuples.length : Int))), (0:Int)), n1) (An h (r2 (fr (r12 (r1 (fr (r4 (fr (r5 (fr (r6 (fr (r5 (fr (r3 (fr (r1 (fr (r4 (fr (fr (r3 (fr (r4 (fr trivial)))))))))))))))))))))))))))) ?_)
 clear h
 refine fun q h => ?_
 obtain ⟨⟨b, d⟩, n1⟩ := q
 obtain ⟨m1, x1, hm1, h, hl1, hr1⟩ := loopN_step h
 replace hm1 : n1 = m1 + 1 := hm1
 subst hm1
 replace h : synopsis_Records_l3s p0 b d = some x1 := h
 delta synopsis_Records_l3s at h
 refine eN (cD h (fun g2 h => ?_) (fun g2 h => ?_))
 refine eN ?_
 obtain ⟨c, j, h⟩ := bS h
 refine eX (enc_api_Chain c) (An (idx_map enc_api_Chain j) ?_)
 refine eN (eX [iI (c.Links.length : Int)] (An (lenS enc_api_Link c.Links) ?_))
 exact eN (jT (_, m1) (An (hl1 _ (oJ h).symm) (An (jL m1) (r2 (fr (r12 (r1 (fr (r4 (fr (r5 (fr (r6 (fr (r5 (fr (r3 (fr (r1 (fr (r4 (fr (fr (r3 (fr (r4 (fr trivial)))))))))))))))))))))))))))
 replace h := popS h hr1
 refine eN (eX [iI (p0.Quantile.Blocks.length : Int)] (An (lenS enc_api_Block p0.Quantile.Blocks) ?_))
 replace h : synopsis_Records_l7 p0 b (0:Int) = some r := h
 delta synopsis_Records_l7 at h
 obtain ⟨n1, h⟩ := loopS h
 refine eX (Sum.inl ⟨(Int × Int) × Nat, fun q => [tM 3 (iI q.1.1), tM 71 (lF 5 (List.map enc_api_Block p0.Quantile.Blocks)), tM 72 (iI (p0.Quantile.Blocks.length : Int)), tM 73 (iI q.1.2)], fun q => loopN (fun (s : (Int × Int)) => synopsis_Records_l7s p0 s.1 s.2) q.2 q.1 = some r, fun q => q.2⟩) (An (eX [] (eX [] (eX ((b, (0:Int)), n1) (An h (r2 (fr (r2 trivial))))))) ?_)
 clear h
 refine fun q h => ?_
 obtain ⟨⟨k, e⟩, n1⟩ := q
 obtain ⟨m1, x1, hm1, h, hl1, hr1⟩ := loopN_step h
 replace hm1 : n1 = m1 + 1 := hm1
 subst hm1
 replace h : synopsis_Records_l7s p0 k e = some x1 := h
 delta synopsis_Records_l7s at h
 refine eN (cD h (fun g3 h => ?_) (fun g3 h => ?_))
 refine eN ?_
 obtain ⟨a, f, h⟩ := bS h
 refine eX (enc_api_Block a) (An (idx_map enc_api_Block f) ?_)
 refine eN (eX [iI (a.Ranks.Entries.length : Int)] (An (lenS enc_api_Entry a.Ranks.Entries) ?_))
 exact eN (jT (_, m1) (An (hl1 _ (oJ h).symm) (An (jL m1) (r2 (fr (r2 trivial))))))
 replace h := popS h hr1
 cases h
 exact eN (r1 trivial)

theorem c_law25_awake (r : Bool) (h : law25_awake = some r) : Contract Tryz.prog 27 [] [] (.sb r) [] := by
 refine C0 Tryz.func27 Tryz.call27 1 ?_
 delta law25_awake at h
 refine eN (eN ?_)
 obtain ⟨a, b, h⟩ := bS h
 refine cK (An (cW (c_synopsis_New (api_Config.mk (6:Int) (0:Int) (0:Int) (0:Int) (0:Int) (2:Int) (0:Int) (0:Int)) (0:Int) a b) (r8 (r1 trivial))) (r1 ?_))
 refine eN ?_
 obtain ⟨c, d, h⟩ := bS h
 refine eN (An (fun g1 => ?_) (fun g1 => ?_))
 refine cK (An (cW (c_synopsis_Records a.1 c (gdT g1 d)) (r8 (r3 (fr (r4 (fr (r5 (fr (r6 (fr (r5 (fr (r3 (fr (r1 (fr (r4 (fr (fr (r3 (fr (r4 (fr trivial))))))))))))))))))))))) (r1 ?_))
 cases h
 exact (An (Eq.symm (aR g1 rfl)) trivial)
 cases h
 exact (An (Eq.symm (aL g1)) trivial)

theorem c_law25_few (p0 : api_Synopsis) (r : Bool) (h : law25_few p0 = some r) : Contract Tryz.prog 28 [.agg (enc_api_Synopsis p0)] [] (.sb r) [] := by
 refine C0 Tryz.func28 Tryz.call28 1 ?_
 delta law25_few at h
 refine eN (eN (eX [iI (p0.Recent.Items.length : Int)] (An (lenS enc_api_Item p0.Recent.Items) ?_)))
 refine eX [iI (p0.Count.Buckets.length : Int)] (An (lenS enc_api_Bucket p0.Count.Buckets) ?_)
 refine eX [iI (p0.Sum.Buckets.length : Int)] (An (lenS enc_api_Bucket p0.Sum.Buckets) ?_)
 refine eX [iI (p0.Smooth.Marks.length : Int)] (An (lenS enc_api_Mark p0.Smooth.Marks) ?_)
 refine eX [iI (p0.Spread.Marks.length : Int)] (An (lenS enc_api_Mark p0.Spread.Marks) ?_)
 refine eX [iI (p0.Poly.Moments.length : Int)] (An (lenS enc_api_Wide p0.Poly.Moments) ?_)
 refine eX [iI (p0.Halve.Sums.length : Int)] (An (lenS (eI .i64) p0.Halve.Sums) ?_)
 refine eX [iI (p0.Extreme.Items.length : Int)] (An (lenS enc_api_Item p0.Extreme.Items) ?_)
 refine eX [iI (p0.Summary.Tuples.length : Int)] (An (lenS enc_api_Tuple p0.Summary.Tuples) ?_)
 refine eX [iI (p0.Quantile.Blocks.length : Int)] (An (lenS enc_api_Block p0.Quantile.Blocks) ?_)
 refine eX [iI (p0.Sample.Chains.length : Int)] (An (lenS enc_api_Chain p0.Sample.Chains) ?_)
 refine eN (eX [iI (p0.Sample.Chains.length : Int)] (An (lenS enc_api_Chain p0.Sample.Chains) ?_))
 replace h : law25_few_l2 p0 (w64 ((w64 ((w64 ((w64 ((w64 ((w64 ((w64 ((w64 ((w64 ((w64 ((p0.Recent.Items.length : Int) + (p0.Count.Buckets.length : Int))) + (p0.Sum.Buckets.length : Int))) + (p0.Smooth.Marks.length : Int))) + (p0.Spread.Marks.length : Int))) + (p0.Poly.Moments.length : Int))) + (p0.Halve.Sums.length : Int))) + (p0.Extreme.Items.length : Int))) + (p0.Summary.Tuples.length : Int))) + (p0.Quantile.Blocks.length : Int))) + (p0.Sample.Chains.length : Int))) (0:Int) = some r := h
 delta law25_few_l2 at h
 obtain ⟨n1, h⟩ := loopS h
 refine eX (Sum.inl ⟨(Int × Int) × Nat, fun q => [tM 1 (.ptr 1 0), tM 3 (iI q.1.1), tM 64 (lF 5 (List.map enc_api_Chain p0.Sample.Chains)), tM 65 (iI (p0.Sample.Chains.length : Int)), tM 66 (iI q.1.2), tB 1 (enc_api_Synopsis p0)], fun q => loopN (fun (s : (Int × Int)) => law25_few_l2s p0 s.1 s.2) q.2 q.1 = some r, fun q => q.2⟩) (An (eX [] (eX [] (eX (((w64 ((w64 ((w64 ((w64 ((w64 ((w64 ((w64 ((w64 ((w64 ((w64 ((p0.Recent.Items.length : Int) + (p0.Count.Buckets.length : Int))) + (p0.Sum.Buckets.length : Int))) + (p0.Smooth.Marks.length : Int))) + (p0.Spread.Marks.length : Int))) + (p0.Poly.Moments.length : Int))) + (p0.Halve.Sums.length : Int))) + (p0.Extreme.Items.length : Int))) + (p0.Summary.Tuples.length : Int))) + (p0.Quantile.Blocks.length : Int))) + (p0.Sample.Chains.length : Int))), (0:Int)), n1) (An h (r2 (fr (r12 (r1 (fr (r4 (fr (r5 (fr (r6 (fr (r5 (fr (r3 (fr (r1 (fr (r4 (fr (fr (r3 (fr (r4 (fr trivial)))))))))))))))))))))))))))) ?_)
 clear h
 refine fun q h => ?_
 obtain ⟨⟨a, d⟩, n1⟩ := q
 obtain ⟨m1, x1, hm1, h, hl1, hr1⟩ := loopN_step h
 replace hm1 : n1 = m1 + 1 := hm1
 subst hm1
 replace h : law25_few_l2s p0 a d = some x1 := h
 delta law25_few_l2s at h
 refine eN (cD h (fun g1 h => ?_) (fun g1 h => ?_))
 refine eN ?_
 obtain ⟨b, f, h⟩ := bS h
 refine eX (enc_api_Chain b) (An (idx_map enc_api_Chain f) ?_)
 refine eN (eX [iI (b.Links.length : Int)] (An (lenS enc_api_Link b.Links) ?_))
 exact eN (jT (_, m1) (An (hl1 _ (oJ h).symm) (An (jL m1) (r2 (fr (r12 (r1 (fr (r4 (fr (r5 (fr (r6 (fr (r5 (fr (r3 (fr (r1 (fr (r4 (fr (fr (r3 (fr (r4 (fr trivial)))))))))))))))))))))))))))
 replace h := popS h hr1
 refine eN (eX [iI (p0.Quantile.Blocks.length : Int)] (An (lenS enc_api_Block p0.Quantile.Blocks) ?_))
 replace h : law25_few_l6 p0 a (0:Int) = some r := h
 delta law25_few_l6 at h
 obtain ⟨n1, h⟩ := loopS h
 refine eX (Sum.inl ⟨(Int × Int) × Nat, fun q => [tM 3 (iI q.1.1), tM 78 (lF 5 (List.map enc_api_Block p0.Quantile.Blocks)), tM 79 (iI (p0.Quantile.Blocks.length : Int)), tM 80 (iI q.1.2)], fun q => loopN (fun (s : (Int × Int)) => law25_few_l6s p0 s.1 s.2) q.2 q.1 = some r, fun q => q.2⟩) (An (eX [] (eX [] (eX ((a, (0:Int)), n1) (An h (r2 (fr (r2 trivial))))))) ?_)
 clear h
 refine fun q h => ?_
 obtain ⟨⟨g, e⟩, n1⟩ := q
 obtain ⟨m1, x1, hm1, h, hl1, hr1⟩ := loopN_step h
 replace hm1 : n1 = m1 + 1 := hm1
 subst hm1
 replace h : law25_few_l6s p0 g e = some x1 := h
 delta law25_few_l6s at h
 refine eN (cD h (fun g2 h => ?_) (fun g2 h => ?_))
 refine eN ?_
 obtain ⟨c, i, h⟩ := bS h
 refine eX (enc_api_Block c) (An (idx_map enc_api_Block i) ?_)
 refine eN (eX [iI (c.Ranks.Entries.length : Int)] (An (lenS enc_api_Entry c.Ranks.Entries) ?_))
 exact eN (jT (_, m1) (An (hl1 _ (oJ h).symm) (An (jL m1) (r2 (fr (r2 trivial))))))
 replace h := popS h hr1
 cases h
 exact eN (r1 trivial)

theorem c_ref25_Records (p0 : api_Synopsis) (r : Int) (h : ref25_Records p0 = some r) : Contract Tryz.prog 32 [.agg (enc_api_Synopsis p0)] [] (iI r) [] := by
 refine C0 Tryz.func32 Tryz.call32 1 ?_
 delta ref25_Records at h
 refine eN (eN ?_)
 obtain ⟨g, i, h⟩ := bS h
 refine cK (An (cW (c_ref25_Validate p0 g i) (r8 (r3 (fr (r4 (fr (r5 (fr (r6 (fr (r5 (fr (r3 (fr (r1 (fr (r4 (fr (fr (r3 (fr (r4 (fr trivial))))))))))))))))))))))) (r1 ?_))
 refine cD h (fun g1 h => ?_) (fun g1 h => ?_)
 cases h
 exact eN (r1 trivial)
 refine eN (eX [iI (p0.Recent.Items.length : Int)] (An (lenS enc_api_Item p0.Recent.Items) ?_))
 refine eX [iI (p0.Count.Buckets.length : Int)] (An (lenS enc_api_Bucket p0.Count.Buckets) ?_)
 refine eX [iI (p0.Sum.Buckets.length : Int)] (An (lenS enc_api_Bucket p0.Sum.Buckets) ?_)
 refine eX [iI (p0.Smooth.Marks.length : Int)] (An (lenS enc_api_Mark p0.Smooth.Marks) ?_)
 refine eX [iI (p0.Spread.Marks.length : Int)] (An (lenS enc_api_Mark p0.Spread.Marks) ?_)
 refine eX [iI (p0.Poly.Moments.length : Int)] (An (lenS enc_api_Wide p0.Poly.Moments) ?_)
 refine eX [iI (p0.Halve.Sums.length : Int)] (An (lenS (eI .i64) p0.Halve.Sums) ?_)
 refine eX [iI (p0.Extreme.Items.length : Int)] (An (lenS enc_api_Item p0.Extreme.Items) ?_)
 refine eX [iI (p0.Summary.Tuples.length : Int)] (An (lenS enc_api_Tuple p0.Summary.Tuples) ?_)
 refine eN (eX [iI (p0.Sample.Chains.length : Int)] (An (lenS enc_api_Chain p0.Sample.Chains) ?_))
 replace h : ref25_Records_l3 p0 (w64 ((w64 ((w64 ((w64 ((w64 ((w64 ((w64 ((w64 ((p0.Recent.Items.length : Int) + (p0.Count.Buckets.length : Int))) + (p0.Sum.Buckets.length : Int))) + (p0.Smooth.Marks.length : Int))) + (p0.Spread.Marks.length : Int))) + (p0.Poly.Moments.length : Int))) + (p0.Halve.Sums.length : Int))) + (p0.Extreme.Items.length : Int))) + (p0.Summary.Tuples.length : Int))) (0:Int) = some r := h
 delta ref25_Records_l3 at h
 obtain ⟨n1, h⟩ := loopS h
 refine eX (Sum.inl ⟨(Int × Int) × Nat, fun q => [tM 1 (.ptr 1 0), tM 3 (iI q.1.1), tM 57 (lF 5 (List.map enc_api_Chain p0.Sample.Chains)), tM 58 (iI (p0.Sample.Chains.length : Int)), tM 59 (iI q.1.2), tB 1 (enc_api_Synopsis p0)], fun q => loopN (fun (s : (Int × Int)) => ref25_Records_l3s p0 s.1 s.2) q.2 q.1 = some r, fun q => q.2⟩) (An (eX [] (eX [] (eX (((w64 ((w64 ((w64 ((w64 ((w64 ((w64 ((w64 ((w64 ((p0.Recent.Items.length : Int) + (p0.Count.Buckets.length : Int))) + (p0.Sum.Buckets.length : Int))) + (p0.Smooth.Marks.length : Int))) + (p0.Spread.Marks.length : Int))) + (p0.Poly.Moments.length : Int))) + (p0.Halve.Sums.length : Int))) + (p0.Extreme.Items.length : Int))) + (p0.Summary.Tuples.length : Int))), (0:Int)), n1) (An h (r2 (fr (r12 (r1 (fr (r4 (fr (r5 (fr (r6 (fr (r5 (fr (r3 (fr (r1 (fr (r4 (fr (fr (r3 (fr (r4 (fr trivial)))))))))))))))))))))))))))) ?_)
 clear h
 refine fun q h => ?_
 obtain ⟨⟨b, d⟩, n1⟩ := q
 obtain ⟨m1, x1, hm1, h, hl1, hr1⟩ := loopN_step h
 replace hm1 : n1 = m1 + 1 := hm1
 subst hm1
 replace h : ref25_Records_l3s p0 b d = some x1 := h
 delta ref25_Records_l3s at h
 refine eN (cD h (fun g2 h => ?_) (fun g2 h => ?_))
 refine eN ?_
 obtain ⟨c, j, h⟩ := bS h
 refine eX (enc_api_Chain c) (An (idx_map enc_api_Chain j) ?_)
 refine eN (eX [iI (c.Links.length : Int)] (An (lenS enc_api_Link c.Links) ?_))
 exact eN (jT (_, m1) (An (hl1 _ (oJ h).symm) (An (jL m1) (r2 (fr (r12 (r1 (fr (r4 (fr (r5 (fr (r6 (fr (r5 (fr (r3 (fr (r1 (fr (r4 (fr (fr (r3 (fr (r4 (fr trivial)))))))))))))))))))))))))))
 replace h := popS h hr1
 refine eN (eX [iI (p0.Quantile.Blocks.length : Int)] (An (lenS enc_api_Block p0.Quantile.Blocks) ?_))
 replace h : ref25_Records_l7 p0 b (0:Int) = some r := h
 delta ref25_Records_l7 at h
 obtain ⟨n1, h⟩ := loopS h
 refine eX (Sum.inl ⟨(Int × Int) × Nat, fun q => [tM 3 (iI q.1.1), tM 71 (lF 5 (List.map enc_api_Block p0.Quantile.Blocks)), tM 72 (iI (p0.Quantile.Blocks.length : Int)), tM 73 (iI q.1.2)], fun q => loopN (fun (s : (Int × Int)) => ref25_Records_l7s p0 s.1 s.2) q.2 q.1 = some r, fun q => q.2⟩) (An (eX [] (eX [] (eX ((b, (0:Int)), n1) (An h (r2 (fr (r2 trivial))))))) ?_)
 clear h
 refine fun q h => ?_
 obtain ⟨⟨k, e⟩, n1⟩ := q
 obtain ⟨m1, x1, hm1, h, hl1, hr1⟩ := loopN_step h
 replace hm1 : n1 = m1 + 1 := hm1
 subst hm1
 replace h : ref25_Records_l7s p0 k e = some x1 := h
 delta ref25_Records_l7s at h
 refine eN (cD h (fun g3 h => ?_) (fun g3 h => ?_))
 refine eN ?_
 obtain ⟨a, f, h⟩ := bS h
 refine eX (enc_api_Block a) (An (idx_map enc_api_Block f) ?_)
 refine eN (eX [iI (a.Ranks.Entries.length : Int)] (An (lenS enc_api_Entry a.Ranks.Entries) ?_))
 exact eN (jT (_, m1) (An (hl1 _ (oJ h).symm) (An (jL m1) (r2 (fr (r2 trivial))))))
 replace h := popS h hr1
 cases h
 exact eN (r1 trivial)

theorem c_law25_SynopsisValidate (p0 : api_Synopsis) (r : Bool) (h : law25_SynopsisValidate p0 = some r) : Contract Tryz.prog 6 [.agg (enc_api_Synopsis p0)] [] (.sb r) [] := by
 refine C0 Tryz.func6 Tryz.call6 1 ?_
 delta law25_SynopsisValidate at h
 refine eN (eN ?_)
 obtain ⟨c, d, h⟩ := bS h
 refine cK (An (cW (c_law25_few p0 c d) (r8 (r3 (fr (r4 (fr (r5 (fr (r6 (fr (r5 (fr (r3 (fr (r1 (fr (r4 (fr (fr (r3 (fr (r4 (fr trivial))))))))))))))))))))))) (r1 ?_))
 refine cD h (fun g1 h => ?_) (fun g1 h => ?_)
 refine eN ?_
 obtain ⟨e, f, h⟩ := bS h
 refine cK (An (cW (c_law25_awake e f) trivial) (r1 ?_))
 cases h
 exact (r1 trivial)
 refine eN ?_
 obtain ⟨g, i, h⟩ := bS h
 obtain ⟨j, k, h⟩ := bS h
 obtain ⟨l, m, h⟩ := bS h
 obtain ⟨n, o, h⟩ := bS h
 obtain ⟨a, b, h⟩ := bS h
 refine eN (cK (An (cW (c_synopsis_Validate p0 g i) (r8 (r3 (fr (r4 (fr (r5 (fr (r6 (fr (r5 (fr (r3 (fr (r1 (fr (r4 (fr (fr (r3 (fr (r4 (fr trivial))))))))))))))))))))))) (r1 ?_)))
 refine cK (An (cW (c_ref25_Validate p0 j k) (r8 (r3 (fr (r4 (fr (r5 (fr (r6 (fr (r5 (fr (r3 (fr (r1 (fr (r4 (fr (fr (r3 (fr (r4 (fr trivial))))))))))))))))))))))) (r1 ?_))
 refine An (fun g2 => ?_) (fun g2 => ?_)
 refine cK (An (cW (c_synopsis_Records p0 l (gdT g2 m)) (r8 (r3 (fr (r4 (fr (r5 (fr (r6 (fr (r5 (fr (r3 (fr (r1 (fr (r4 (fr (fr (r3 (fr (r4 (fr trivial))))))))))))))))))))))) (r1 ?_))
 refine cK (An (cW (c_ref25_Records p0 n (gdT g2 o)) (r8 (r3 (fr (r4 (fr (r5 (fr (r6 (fr (r5 (fr (r3 (fr (r1 (fr (r4 (fr (fr (r3 (fr (r4 (fr trivial))))))))))))))))))))))) (r1 ?_))
 refine An (fun g3 => ?_) (fun g3 => ?_)
 refine cK (An (cW (c_law25_awake a (gdT (aR g2 g3) b)) trivial) (r1 ?_))
 cases h
 exact (An (Eq.symm (aR (aR g2 g3) rfl)) trivial)
 cases h
 exact (An (Eq.symm (aL (aR g2 g3))) trivial)
 cases h
 exact (An (Eq.symm (aL (aL g2))) trivial)

end Go.Proofs.YtinffhpeahlhoaaGreat
