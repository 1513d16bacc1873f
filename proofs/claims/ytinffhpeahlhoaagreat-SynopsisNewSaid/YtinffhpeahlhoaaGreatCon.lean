/- The contracts: each function of the program does what its function on plain data says. Made by program. -/
import Derived.Test.YtinffhpeahlhoaaGreatTab
import Derived.Test.YtinffhpeahlhoaaGreatWin
import Derived.Test.YtinffhpeahlhoaaGreatVc
import Derived.Test.YtinffhpeahlhoaaGreatWalk
import Derived.Test.YtinffhpeahlhoaaGreatCon0
set_option linter.unusedVariables false
set_option linter.unusedSimpArgs false
set_option linter.unnecessarySimpa false
set_option maxHeartbeats 4000000
set_option maxRecDepth 20000
namespace Go.Proofs.YtinffhpeahlhoaaGreat
open Go.Vc Go.Dec Go.Win

theorem c_ref19_Same (p0 : api_Sample) (p1 : api_Sample) (r : Bool) (h : ref19_Same p0 p1 = some r) : Contract Tryz.prog 75 [.agg [.lst 5 false (List.map enc_api_Chain p0.Chains)], .agg [.lst 5 false (List.map enc_api_Chain p1.Chains)]] [] (.sb r) [] := by
 refine contract_of_vcs tab_ok orders_ok Tryz.func75 Tryz.call75 (by kernel_rfl) 1 rfl rfl _ rfl ?_
 delta ref19_Same at h
 refine eN (eN ?_)
 refine eX [.int .i64 (p0.Chains.length : Int)] (An (lenS enc_api_Chain p0.Chains) ?_)
 refine eX [.int .i64 (p1.Chains.length : Int)] (An (lenS enc_api_Chain p1.Chains) ?_)
 refine An (fun g1 => ?_) (fun g1 => ?_)
 replace h := cT g1 h
 refine eN ?_
 replace h := oJ h
 first | subst h | rw [← h]
 exact (r1 trivial)
 replace h := cF g1 h
 refine eN ?_
 refine eX [.int .i64 (p0.Chains.length : Int)] (An (lenS enc_api_Chain p0.Chains) ?_)
 replace h : ref19_Same_l3 p0 p1 (0:Int) = some r := h
 delta ref19_Same_l3 at h
 obtain ⟨n1, h⟩ := loopS h
 refine eX (Sum.inl ⟨Int × Nat, fun q => [(.tmp 2, .av (.ptr 1 0)), (.tmp 3, .av (.ptr 2 0)), (.tmp 15, .av (.int .i64 (p0.Chains.length : Int))), (.tmp 16, .av (.int .i64 q.1)), (.box 1, .box [.lst 5 false (List.map enc_api_Chain p0.Chains)]), (.box 2, .box [.lst 5 false (List.map enc_api_Chain p1.Chains)])], fun q => loopN (fun (s : Int) => ref19_Same_l3s p0 p1 s) q.2 q.1 = some r, fun q => q.2⟩) (An (eX [] (eX [] (eX ((0:Int), n1) (An h (r3 (fr (fr trivial))))))) ?_)
 clear h
 refine fun q h => ?_
 obtain ⟨v3_16, n1⟩ := q
 obtain ⟨m1, x1, hm1, h, hl1, hr1⟩ := loopN_step h
 replace hm1 : n1 = m1 + 1 := hm1
 subst hm1
 replace h : ref19_Same_l3s p0 p1 v3_16 = some x1 := h
 delta ref19_Same_l3s at h
 refine eN ?_
 refine An (fun g2 => ?_) (fun g2 => ?_)
 replace h := cT g2 h
 refine eN (eN ?_)
 obtain ⟨x6_3, e6_3, h⟩ := bS h
 obtain ⟨x6_8, e6_8, h⟩ := bS h
 obtain ⟨y6_10, e6_10, h⟩ := bS h
 refine eX (enc_api_Chain x6_3) (An (idx_map enc_api_Chain e6_3) ?_)
 refine eX (enc_api_Chain x6_8) (An (idx_map enc_api_Chain e6_8) ?_)
 refine eX (CK.plain _ _) (An (ContractT.wk (c_ref18_Same x6_3 x6_8 y6_10 e6_10) (r4 (fr (r4 (fr trivial))))) (An rfl ?_))
 refine An (fun g3 => ?_) (fun g3 => ?_)
 replace h := cT g3 h
 refine eN ?_
 replace h := retS h hr1
 first | subst h | rw [← h]
 exact (r1 trivial)
 replace h := cF g3 h
 refine eN ?_
 exact eX [] (eX [] (eX ((w64 (v3_16 + (1:Int))), m1) (An (hl1 (w64 (v3_16 + (1:Int))) (oJ h).symm) (An (Nat.lt_succ_self m1) (r3 (fr (fr trivial)))))))
 replace h := cF g2 h
 replace h := popS h hr1
 refine eN ?_
 replace h := oJ h
 first | subst h | rw [← h]
 exact (r1 trivial)

theorem c_ref20_Same (p0 : api_Summary) (p1 : api_Summary) (r : Bool) (h : ref20_Same p0 p1 = some r) : Contract Tryz.prog 76 [.agg (enc_api_Summary p0), .agg (enc_api_Summary p1)] [] (.sb r) [] := by
 refine contract_of_vcs tab_ok orders_ok Tryz.func76 Tryz.call76 (by kernel_rfl) 1 rfl rfl _ rfl ?_
 delta ref20_Same at h
 refine eN (eN (eN ?_))
 refine An (fun g1 => ?_) (fun g1 => ?_)
 refine An (fun g2 => ?_) (fun g2 => ?_)
 refine An (fun g3 => ?_) (fun g3 => ?_)
 refine eX [.int .i64 (p0.Tuples.length : Int)] (An (lenS enc_api_Tuple p0.Tuples) ?_)
 refine eX [.int .i64 (p1.Tuples.length : Int)] (An (lenS enc_api_Tuple p1.Tuples) ?_)
 refine An (fun g4 => ?_) (fun g4 => ?_)
 replace h := cT (oR (oR (oR g1 g2) g3) g4) h
 refine eN ?_
 replace h := oJ h
 first | subst h | rw [← h]
 exact (r1 trivial)
 replace h := cF (oR (oR (oR g1 g2) g3) g4) h
 refine eN ?_
 refine eX [.int .i64 (p0.Tuples.length : Int)] (An (lenS enc_api_Tuple p0.Tuples) ?_)
 replace h : ref20_Same_l3 p0 p1 (0:Int) = some r := h
 delta ref20_Same_l3 at h
 obtain ⟨n1, h⟩ := loopS h
 refine eX (Sum.inl ⟨Int × Nat, fun q => [(.tmp 2, .av (.ptr 1 0)), (.tmp 3, .av (.ptr 2 0)), (.tmp 36, .av (.int .i64 (p0.Tuples.length : Int))), (.tmp 37, .av (.int .i64 q.1)), (.box 1, .box (enc_api_Summary p0)), (.box 2, .box (enc_api_Summary p1))], fun q => loopN (fun (s : Int) => ref20_Same_l3s p0 p1 s) q.2 q.1 = some r, fun q => q.2⟩) (An (eX [] (eX [] (eX ((0:Int), n1) (An h (r6 (fr (r3 (fr trivial)))))))) ?_)
 clear h
 refine fun q h => ?_
 obtain ⟨v3_37, n1⟩ := q
 obtain ⟨m1, x1, hm1, h, hl1, hr1⟩ := loopN_step h
 replace hm1 : n1 = m1 + 1 := hm1
 subst hm1
 replace h : ref20_Same_l3s p0 p1 v3_37 = some x1 := h
 delta ref20_Same_l3s at h
 refine eN ?_
 refine An (fun g5 => ?_) (fun g5 => ?_)
 replace h := cT g5 h
 refine eN (eN ?_)
 obtain ⟨x6_3, e6_3, h⟩ := bS h
 obtain ⟨x6_8, e6_8, h⟩ := bS h
 refine eX [.int .i64 x6_3.V, .int .i64 x6_3.G, .int .i64 x6_3.D] (An (idx_map enc_api_Tuple e6_3) ?_)
 refine eX [.int .i64 x6_8.V, .int .i64 x6_8.G, .int .i64 x6_8.D] (An (idx_map enc_api_Tuple e6_8) ?_)
 refine An (fun g6 => ?_) (fun g6 => ?_)
 replace h := cT g6 h
 refine eN ?_
 replace h := retS h hr1
 first | subst h | rw [← h]
 exact (r1 trivial)
 replace h := cF g6 h
 refine eN ?_
 exact eX [] (eX [] (eX ((w64 (v3_37 + (1:Int))), m1) (An (hl1 (w64 (v3_37 + (1:Int))) (oJ h).symm) (An (Nat.lt_succ_self m1) (r6 (fr (r3 (fr trivial))))))))
 replace h := cF g5 h
 replace h := popS h hr1
 refine eN ?_
 replace h := oJ h
 first | subst h | rw [← h]
 exact (r1 trivial)
 replace h := cT (oL (oR (oR g1 g2) g3)) h
 refine eN ?_
 replace h := oJ h
 first | subst h | rw [← h]
 exact (r1 trivial)
 replace h := cT (oL (oL (oR g1 g2))) h
 refine eN ?_
 replace h := oJ h
 first | subst h | rw [← h]
 exact (r1 trivial)
 replace h := cT (oL (oL (oL g1))) h
 refine eN ?_
 replace h := oJ h
 first | subst h | rw [← h]
 exact (r1 trivial)

theorem c_ref21_Same (p0 : api_Ranks) (p1 : api_Ranks) (r : Bool) (h : ref21_Same p0 p1 = some r) : Contract Tryz.prog 228 [.agg [.int .i64 p0.N, .lst 3 false (List.map enc_api_Entry p0.Entries)], .agg [.int .i64 p1.N, .lst 3 false (List.map enc_api_Entry p1.Entries)]] [] (.sb r) [] := by
 refine contract_of_vcs tab_ok orders_ok Tryz.func228 Tryz.call228 (by kernel_rfl) 1 rfl rfl _ rfl ?_
 delta ref21_Same at h
 refine eN (eN (eN ?_))
 refine An (fun g1 => ?_) (fun g1 => ?_)
 refine eX [.int .i64 (p0.Entries.length : Int)] (An (lenS enc_api_Entry p0.Entries) ?_)
 refine eX [.int .i64 (p1.Entries.length : Int)] (An (lenS enc_api_Entry p1.Entries) ?_)
 refine An (fun g2 => ?_) (fun g2 => ?_)
 replace h := cT (oR g1 g2) h
 refine eN ?_
 replace h := oJ h
 first | subst h | rw [← h]
 exact (r1 trivial)
 replace h := cF (oR g1 g2) h
 refine eN ?_
 refine eX [.int .i64 (p0.Entries.length : Int)] (An (lenS enc_api_Entry p0.Entries) ?_)
 replace h : ref21_Same_l3 p0 p1 (0:Int) = some r := h
 delta ref21_Same_l3 at h
 obtain ⟨n1, h⟩ := loopS h
 refine eX (Sum.inl ⟨Int × Nat, fun q => [(.tmp 2, .av (.ptr 1 0)), (.tmp 3, .av (.ptr 2 0)), (.tmp 22, .av (.int .i64 (p0.Entries.length : Int))), (.tmp 23, .av (.int .i64 q.1)), (.box 1, .box [.int .i64 p0.N, .lst 3 false (List.map enc_api_Entry p0.Entries)]), (.box 2, .box [.int .i64 p1.N, .lst 3 false (List.map enc_api_Entry p1.Entries)])], fun q => loopN (fun (s : Int) => ref21_Same_l3s p0 p1 s) q.2 q.1 = some r, fun q => q.2⟩) (An (eX [] (eX [] (eX ((0:Int), n1) (An h (r4 (fr (r1 (fr trivial)))))))) ?_)
 clear h
 refine fun q h => ?_
 obtain ⟨v3_23, n1⟩ := q
 obtain ⟨m1, x1, hm1, h, hl1, hr1⟩ := loopN_step h
 replace hm1 : n1 = m1 + 1 := hm1
 subst hm1
 replace h : ref21_Same_l3s p0 p1 v3_23 = some x1 := h
 delta ref21_Same_l3s at h
 refine eN ?_
 refine An (fun g3 => ?_) (fun g3 => ?_)
 replace h := cT g3 h
 refine eN (eN ?_)
 obtain ⟨x6_3, e6_3, h⟩ := bS h
 obtain ⟨x6_8, e6_8, h⟩ := bS h
 refine eX [.int .i64 x6_3.V, .int .i64 x6_3.Min, .int .i64 x6_3.Max] (An (idx_map enc_api_Entry e6_3) ?_)
 refine eX [.int .i64 x6_8.V, .int .i64 x6_8.Min, .int .i64 x6_8.Max] (An (idx_map enc_api_Entry e6_8) ?_)
 refine An (fun g4 => ?_) (fun g4 => ?_)
 replace h := cT g4 h
 refine eN ?_
 replace h := retS h hr1
 first | subst h | rw [← h]
 exact (r1 trivial)
 replace h := cF g4 h
 refine eN ?_
 exact eX [] (eX [] (eX ((w64 (v3_23 + (1:Int))), m1) (An (hl1 (w64 (v3_23 + (1:Int))) (oJ h).symm) (An (Nat.lt_succ_self m1) (r4 (fr (r1 (fr trivial))))))))
 replace h := cF g3 h
 replace h := popS h hr1
 refine eN ?_
 replace h := oJ h
 first | subst h | rw [← h]
 exact (r1 trivial)
 replace h := cT (oL g1) h
 refine eN ?_
 replace h := oJ h
 first | subst h | rw [← h]
 exact (r1 trivial)

theorem c_ref22_Same (p0 : (List api_Block)) (p1 : (List api_Block)) (r : Bool) (h : ref22_Same p0 p1 = some r) : Contract Tryz.prog 150 [.lst 5 false (List.map enc_api_Block p0), .lst 5 false (List.map enc_api_Block p1)] [] (.sb r) [] := by
 refine contract_of_vcs tab_ok orders_ok Tryz.func150 Tryz.call150 (by kernel_rfl) 1 rfl rfl _ rfl ?_
 delta ref22_Same at h
 refine eN (eN ?_)
 refine eX [.int .i64 (p0.length : Int)] (An (lenS enc_api_Block p0) ?_)
 refine eX [.int .i64 (p1.length : Int)] (An (lenS enc_api_Block p1) ?_)
 refine An (fun g1 => ?_) (fun g1 => ?_)
 replace h := cT g1 h
 refine eN ?_
 replace h := oJ h
 first | subst h | rw [← h]
 exact (r1 trivial)
 replace h := cF g1 h
 refine eN ?_
 refine eX [.int .i64 (p0.length : Int)] (An (lenS enc_api_Block p0) ?_)
 replace h : ref22_Same_l3 p0 p1 (0:Int) = some r := h
 delta ref22_Same_l3 at h
 obtain ⟨n1, h⟩ := loopS h
 refine eX (Sum.inl ⟨Int × Nat, fun q => [(.tmp 0, .av (.lst 5 false (List.map enc_api_Block p0))), (.tmp 1, .av (.lst 5 false (List.map enc_api_Block p1))), (.tmp 12, .av (.int .i64 (p0.length : Int))), (.tmp 13, .av (.int .i64 q.1))], fun q => loopN (fun (s : Int) => ref22_Same_l3s p0 p1 s) q.2 q.1 = some r, fun q => q.2⟩) (An (eX [] (eX [] (eX ((0:Int), n1) (An h (r1 (fr (fr (r2 trivial)))))))) ?_)
 clear h
 refine fun q h => ?_
 obtain ⟨v3_13, n1⟩ := q
 obtain ⟨m1, x1, hm1, h, hl1, hr1⟩ := loopN_step h
 replace hm1 : n1 = m1 + 1 := hm1
 subst hm1
 replace h : ref22_Same_l3s p0 p1 v3_13 = some x1 := h
 delta ref22_Same_l3s at h
 refine eN ?_
 refine An (fun g2 => ?_) (fun g2 => ?_)
 replace h := cT g2 h
 refine eN (eN ?_)
 obtain ⟨x6_2, e6_2, h⟩ := bS h
 obtain ⟨x6_7, e6_7, h⟩ := bS h
 obtain ⟨x6_14, e6_14, h⟩ := bS h
 obtain ⟨x6_19, e6_19, h⟩ := bS h
 obtain ⟨x6_27, e6_27, h⟩ := bS h
 obtain ⟨x6_32, e6_32, h⟩ := bS h
 obtain ⟨x6_40, e6_40, h⟩ := bS h
 obtain ⟨x6_45, e6_45, h⟩ := bS h
 obtain ⟨y6_48, e6_48, h⟩ := bS h
 refine eN ?_
 refine eX (enc_api_Block x6_2) (An (idx_map enc_api_Block e6_2) ?_)
 refine eX (enc_api_Block x6_7) (An (idx_map enc_api_Block e6_7) ?_)
 refine An (fun g3 => ?_) (fun g3 => ?_)
 refine eX (enc_api_Block x6_14) (An (idx_map enc_api_Block (gdT (nE g3) e6_14)) ?_)
 refine eX (enc_api_Block x6_19) (An (idx_map enc_api_Block (gdT (nE g3) e6_19)) ?_)
 refine An (fun g4 => ?_) (fun g4 => ?_)
 refine eX (enc_api_Block x6_27) (An (idx_map enc_api_Block (gdT (nE (oR g3 g4)) e6_27)) ?_)
 refine eX (enc_api_Block x6_32) (An (idx_map enc_api_Block (gdT (nE (oR g3 g4)) e6_32)) ?_)
 refine An (fun g5 => ?_) (fun g5 => ?_)
 refine eX (enc_api_Block x6_40) (An (idx_map enc_api_Block (gdT (nE (oR (oR g3 g4) g5)) e6_40)) ?_)
 refine eX (enc_api_Block x6_45) (An (idx_map enc_api_Block (gdT (nE (oR (oR g3 g4) g5)) e6_45)) ?_)
 refine eX (CK.plain _ _) (An (ContractT.wk (c_ref21_Same x6_40.Ranks x6_45.Ranks y6_48 (gdT (nE (oR (oR g3 g4) g5)) e6_48)) (r1 (fr (r1 (fr trivial))))) (An rfl ?_))
 refine An (fun g6 => ?_) (fun g6 => ?_)
 replace h := cT (oR (oR (oR g3 g4) g5) g6) h
 refine eN ?_
 replace h := retS h hr1
 first | subst h | rw [← h]
 exact (r1 trivial)
 replace h := cF (oR (oR (oR g3 g4) g5) g6) h
 refine eN ?_
 exact eX [] (eX [] (eX ((w64 (v3_13 + (1:Int))), m1) (An (hl1 (w64 (v3_13 + (1:Int))) (oJ h).symm) (An (Nat.lt_succ_self m1) (r1 (fr (fr (r2 trivial))))))))
 replace h := cT (oL (oR (oR g3 g4) g5)) h
 refine eN ?_
 replace h := retS h hr1
 first | subst h | rw [← h]
 exact (r1 trivial)
 replace h := cT (oL (oL (oR g3 g4))) h
 refine eN ?_
 replace h := retS h hr1
 first | subst h | rw [← h]
 exact (r1 trivial)
 replace h := cT (oL (oL (oL g3))) h
 refine eN ?_
 replace h := retS h hr1
 first | subst h | rw [← h]
 exact (r1 trivial)
 replace h := cF g2 h
 replace h := popS h hr1
 refine eN ?_
 replace h := oJ h
 first | subst h | rw [← h]
 exact (r1 trivial)

theorem c_ref23_Same (p0 : api_Quantile) (p1 : api_Quantile) (r : Bool) (h : ref23_Same p0 p1 = some r) : Contract Tryz.prog 77 [.agg (enc_api_Quantile p0), .agg (enc_api_Quantile p1)] [] (.sb r) [] := by
 refine contract_of_vcs tab_ok orders_ok Tryz.func77 Tryz.call77 (by kernel_rfl) 1 rfl rfl _ rfl ?_
 delta ref23_Same at h
 refine eN (eN ?_)
 obtain ⟨y1_31, e1_31, h⟩ := bS h
 refine eN ?_
 refine An (fun g1 => ?_) (fun g1 => ?_)
 refine An (fun g2 => ?_) (fun g2 => ?_)
 refine An (fun g3 => ?_) (fun g3 => ?_)
 refine An (fun g4 => ?_) (fun g4 => ?_)
 refine eX (CK.plain _ _) (An (ContractT.wk (c_ref22_Same p0.Blocks p1.Blocks y1_31 (gdT (aR (aR (aR g1 g2) g3) g4) e1_31)) (fr (fr trivial))) (An rfl ?_))
 replace h := oJ h
 first | subst h | rw [← h]
 exact (An (Eq.symm (aR (aR (aR (aR g1 g2) g3) g4) rfl)) trivial)
 replace h := oJ h
 first | subst h | rw [← h]
 exact (An (Eq.symm (aL (aR (aR (aR g1 g2) g3) g4))) trivial)
 replace h := oJ h
 first | subst h | rw [← h]
 exact (An (Eq.symm (aL (aL (aR (aR g1 g2) g3)))) trivial)
 replace h := oJ h
 first | subst h | rw [← h]
 exact (An (Eq.symm (aL (aL (aL (aR g1 g2))))) trivial)
 replace h := oJ h
 first | subst h | rw [← h]
 exact (An (Eq.symm (aL (aL (aL (aL g1))))) trivial)

theorem c_ref25_Same (p0 : api_Synopsis) (p1 : api_Synopsis) (r : Bool) (h : ref25_Same p0 p1 = some r) : Contract Tryz.prog 26 [.agg (enc_api_Synopsis p0), .agg (enc_api_Synopsis p1)] [] (.sb r) [] := by
 refine contract_of_vcs tab_ok orders_ok Tryz.func26 Tryz.call26 (by kernel_rfl) 1 rfl rfl _ rfl ?_
 delta ref25_Same at h
 refine eN (eN ?_)
 obtain ⟨y1_10, e1_10, h⟩ := bS h
 obtain ⟨y1_17, e1_17, h⟩ := bS h
 obtain ⟨y1_24, e1_24, h⟩ := bS h
 obtain ⟨y1_31, e1_31, h⟩ := bS h
 obtain ⟨y1_38, e1_38, h⟩ := bS h
 obtain ⟨y1_45, e1_45, h⟩ := bS h
 obtain ⟨y1_52, e1_52, h⟩ := bS h
 obtain ⟨y1_59, e1_59, h⟩ := bS h
 obtain ⟨y1_66, e1_66, h⟩ := bS h
 obtain ⟨y1_73, e1_73, h⟩ := bS h
 obtain ⟨y1_80, e1_80, h⟩ := bS h
 refine eN ?_
 refine An (fun g1 => ?_) (fun g1 => ?_)
 refine eX (CK.plain _ _) (An (ContractT.wk (c_ref09_Same p0.Recent p1.Recent y1_10 (gdT g1 e1_10)) (r3 (fr (r3 (fr trivial))))) (An rfl ?_))
 refine An (fun g2 => ?_) (fun g2 => ?_)
 refine eX (CK.plain _ _) (An (ContractT.wk (c_ref11_Same p0.Count p1.Count y1_17 (gdT (aR g1 g2) e1_17)) (r4 (fr (r4 (fr trivial))))) (An rfl ?_))
 refine An (fun g3 => ?_) (fun g3 => ?_)
 refine eX (CK.plain _ _) (An (ContractT.wk (c_ref12_Same p0.Sum p1.Sum y1_24 (gdT (aR (aR g1 g2) g3) e1_24)) (r5 (fr (r5 (fr trivial))))) (An rfl ?_))
 refine An (fun g4 => ?_) (fun g4 => ?_)
 refine eX (CK.plain _ _) (An (ContractT.wk (c_ref13_Same p0.Smooth p1.Smooth y1_31 (gdT (aR (aR (aR g1 g2) g3) g4) e1_31)) (r6 (fr (r6 (fr trivial))))) (An rfl ?_))
 refine An (fun g5 => ?_) (fun g5 => ?_)
 refine eX (CK.plain _ _) (An (ContractT.wk (c_ref14_Same p0.Spread p1.Spread y1_38 (gdT (aR (aR (aR (aR g1 g2) g3) g4) g5) e1_38)) (r5 (fr (r5 (fr trivial))))) (An rfl ?_))
 refine An (fun g6 => ?_) (fun g6 => ?_)
 refine eX (CK.plain _ _) (An (ContractT.wk (c_ref15_Same p0.Poly p1.Poly y1_45 (gdT (aR (aR (aR (aR (aR g1 g2) g3) g4) g5) g6) e1_45)) (r3 (fr (r3 (fr trivial))))) (An rfl ?_))
 refine An (fun g7 => ?_) (fun g7 => ?_)
 refine eX (CK.plain _ _) (An (ContractT.wk (c_ref16_Same p0.Halve p1.Halve y1_52 (gdT (aR (aR (aR (aR (aR (aR g1 g2) g3) g4) g5) g6) g7) e1_52)) (r1 (fr (r1 (fr trivial))))) (An rfl ?_))
 refine An (fun g8 => ?_) (fun g8 => ?_)
 refine eX (CK.plain _ _) (An (ContractT.wk (c_ref17_Same p0.Extreme p1.Extreme y1_59 (gdT (aR (aR (aR (aR (aR (aR (aR g1 g2) g3) g4) g5) g6) g7) g8) e1_59)) (r4 (fr (r4 (fr trivial))))) (An rfl ?_))
 refine An (fun g9 => ?_) (fun g9 => ?_)
 refine eX (CK.plain _ _) (An (ContractT.wk (c_ref19_Same p0.Sample p1.Sample y1_66 (gdT (aR (aR (aR (aR (aR (aR (aR (aR g1 g2) g3) g4) g5) g6) g7) g8) g9) e1_66)) (fr (fr trivial))) (An rfl ?_))
 refine An (fun g10 => ?_) (fun g10 => ?_)
 refine eX (CK.plain _ _) (An (ContractT.wk (c_ref20_Same p0.Summary p1.Summary y1_73 (gdT (aR (aR (aR (aR (aR (aR (aR (aR (aR g1 g2) g3) g4) g5) g6) g7) g8) g9) g10) e1_73)) (r3 (fr (r3 (fr trivial))))) (An rfl ?_))
 refine An (fun g11 => ?_) (fun g11 => ?_)
 refine eX (CK.plain _ _) (An (ContractT.wk (c_ref23_Same p0.Quantile p1.Quantile y1_80 (gdT (aR (aR (aR (aR (aR (aR (aR (aR (aR (aR g1 g2) g3) g4) g5) g6) g7) g8) g9) g10) g11) e1_80)) (r4 (fr (r4 (fr trivial))))) (An rfl ?_))
 replace h := oJ h
 first | subst h | rw [← h]
 exact (An (Eq.symm (aR (aR (aR (aR (aR (aR (aR (aR (aR (aR (aR g1 g2) g3) g4) g5) g6) g7) g8) g9) g10) g11) rfl)) trivial)
 replace h := oJ h
 first | subst h | rw [← h]
 exact (An (Eq.symm (aL (aR (aR (aR (aR (aR (aR (aR (aR (aR (aR g1 g2) g3) g4) g5) g6) g7) g8) g9) g10) g11))) trivial)
 replace h := oJ h
 first | subst h | rw [← h]
 exact (An (Eq.symm (aL (aL (aR (aR (aR (aR (aR (aR (aR (aR (aR g1 g2) g3) g4) g5) g6) g7) g8) g9) g10)))) trivial)
 replace h := oJ h
 first | subst h | rw [← h]
 exact (An (Eq.symm (aL (aL (aL (aR (aR (aR (aR (aR (aR (aR (aR g1 g2) g3) g4) g5) g6) g7) g8) g9))))) trivial)
 replace h := oJ h
 first | subst h | rw [← h]
 exact (An (Eq.symm (aL (aL (aL (aL (aR (aR (aR (aR (aR (aR (aR g1 g2) g3) g4) g5) g6) g7) g8)))))) trivial)
 replace h := oJ h
 first | subst h | rw [← h]
 exact (An (Eq.symm (aL (aL (aL (aL (aL (aR (aR (aR (aR (aR (aR g1 g2) g3) g4) g5) g6) g7))))))) trivial)
 replace h := oJ h
 first | subst h | rw [← h]
 exact (An (Eq.symm (aL (aL (aL (aL (aL (aL (aR (aR (aR (aR (aR g1 g2) g3) g4) g5) g6)))))))) trivial)
 replace h := oJ h
 first | subst h | rw [← h]
 exact (An (Eq.symm (aL (aL (aL (aL (aL (aL (aL (aR (aR (aR (aR g1 g2) g3) g4) g5))))))))) trivial)
 replace h := oJ h
 first | subst h | rw [← h]
 exact (An (Eq.symm (aL (aL (aL (aL (aL (aL (aL (aL (aR (aR (aR g1 g2) g3) g4)))))))))) trivial)
 replace h := oJ h
 first | subst h | rw [← h]
 exact (An (Eq.symm (aL (aL (aL (aL (aL (aL (aL (aL (aL (aR (aR g1 g2) g3))))))))))) trivial)
 replace h := oJ h
 first | subst h | rw [← h]
 exact (An (Eq.symm (aL (aL (aL (aL (aL (aL (aL (aL (aL (aL (aR g1 g2)))))))))))) trivial)
 replace h := oJ h
 first | subst h | rw [← h]
 exact (An (Eq.symm (aL (aL (aL (aL (aL (aL (aL (aL (aL (aL (aL g1)))))))))))) trivial)

theorem c_synopsis_tick' (p0 : Int) (r : Bool) (h : synopsis_tick p0 = r) : Contract Tryz.prog 42 [.int .i64 p0] [] (.sb r) [] := by
 refine contract_of_vcs tab_ok orders_ok Tryz.func42 Tryz.call42 (by kernel_rfl) 1 rfl rfl _ rfl ?_
 delta synopsis_tick at h
 refine eN (eN (eN ?_))
 refine An (fun g1 => ?_) (fun g1 => ?_)
 first | subst h | rw [← h]
 exact (An (Eq.symm (aR g1 rfl)) trivial)
 first | subst h | rw [← h]
 exact (An (Eq.symm (aL g1)) trivial)

theorem c_recent_New' (p0 : Int) (p1 : Int) (p2 : Int) (r : (api_Recent × Int)) (h : recent_New p0 p1 p2 = r) : Contract Tryz.prog 43 [.int .i64 p0, .int .i64 p1, .int .i64 p2] [] (.tup [.agg (enc_api_Recent r.1), .int .i64 r.2]) [] := by
 refine contract_of_vcs tab_ok orders_ok Tryz.func43 Tryz.call43 (by kernel_rfl) 1 rfl rfl _ rfl ?_
 delta recent_New at h
 refine eN (eN ?_)
 refine eX (CK.plain _ _) (An (ContractT.wk (c_recent_good' p0 p1 p2 _ rfl) (r3 trivial)) (An rfl ?_))
 refine An (fun g1 => ?_) (fun g1 => ?_)
 replace h := cT g1 h
 refine eN ?_
 first | subst h | rw [← h]
 exact (r5 trivial)
 replace h := cF g1 h
 refine eN ?_
 first | subst h | rw [← h]
 exact (r5 trivial)

theorem c_count_New' (p0 : Int) (p1 : Int) (p2 : Int) (p3 : Int) (r : (api_Count × Int)) (h : count_New p0 p1 p2 p3 = r) : Contract Tryz.prog 44 [.int .i64 p0, .int .i64 p1, .int .i64 p2, .int .i64 p3] [] (.tup [.agg (enc_api_Count r.1), .int .i64 r.2]) [] := by
 refine contract_of_vcs tab_ok orders_ok Tryz.func44 Tryz.call44 (by kernel_rfl) 1 rfl rfl _ rfl ?_
 delta count_New at h
 refine eN (eN ?_)
 refine eX (CK.plain _ _) (An (ContractT.wk (c_count_good' p0 p1 p2 p3 _ rfl) (r4 trivial)) (An rfl ?_))
 refine An (fun g1 => ?_) (fun g1 => ?_)
 replace h := cT g1 h
 refine eN ?_
 first | subst h | rw [← h]
 exact (r6 trivial)
 replace h := cF g1 h
 refine eN ?_
 first | subst h | rw [← h]
 exact (r6 trivial)

theorem c_sum_New' (p0 : Int) (p1 : Int) (p2 : Int) (p3 : Int) (p4 : Int) (r : (api_Sum × Int)) (h : sum_New p0 p1 p2 p3 p4 = r) : Contract Tryz.prog 45 [.int .i64 p0, .int .i64 p1, .int .i64 p2, .int .i64 p3, .int .i64 p4] [] (.tup [.agg (enc_api_Sum r.1), .int .i64 r.2]) [] := by
 refine contract_of_vcs tab_ok orders_ok Tryz.func45 Tryz.call45 (by kernel_rfl) 1 rfl rfl _ rfl ?_
 delta sum_New at h
 refine eN (eN ?_)
 refine eX (CK.plain _ _) (An (ContractT.wk (c_sum_good' p0 p1 p2 p3 p4 _ rfl) (r5 trivial)) (An rfl ?_))
 refine An (fun g1 => ?_) (fun g1 => ?_)
 replace h := cT g1 h
 refine eN ?_
 first | subst h | rw [← h]
 exact (r7 trivial)
 replace h := cF g1 h
 refine eN ?_
 first | subst h | rw [← h]
 exact (r7 trivial)

theorem c_smooth_New' (p0 : Int) (p1 : Int) (p2 : Int) (p3 : Int) (p4 : Int) (r : (api_Smooth × Int)) (h : smooth_New p0 p1 p2 p3 p4 = r) : Contract Tryz.prog 46 [.int .i64 p0, .int .i64 p1, .int .i64 p2, .int .i64 p3, .int .i64 p4] [] (.tup [.agg (enc_api_Smooth r.1), .int .i64 r.2]) [] := by
 refine contract_of_vcs tab_ok orders_ok Tryz.func46 Tryz.call46 (by kernel_rfl) 1 rfl rfl _ rfl ?_
 delta smooth_New at h
 refine eN (eN ?_)
 refine eX (CK.plain _ _) (An (ContractT.wk (c_smooth_good' p0 p1 p2 p3 p4 _ rfl) (r5 trivial)) (An rfl ?_))
 refine An (fun g1 => ?_) (fun g1 => ?_)
 replace h := cT g1 h
 refine eN ?_
 first | subst h | rw [← h]
 exact (r8 trivial)
 replace h := cF g1 h
 refine eN ?_
 first | subst h | rw [← h]
 exact (r8 trivial)

theorem c_spread_New' (p0 : Int) (p1 : Int) (p2 : Int) (p3 : Int) (r : (api_Spread × Int)) (h : spread_New p0 p1 p2 p3 = r) : Contract Tryz.prog 47 [.int .i64 p0, .int .i64 p1, .int .i64 p2, .int .i64 p3] [] (.tup [.agg (enc_api_Spread r.1), .int .i64 r.2]) [] := by
 refine contract_of_vcs tab_ok orders_ok Tryz.func47 Tryz.call47 (by kernel_rfl) 1 rfl rfl _ rfl ?_
 delta spread_New at h
 refine eN (eN ?_)
 refine eX (CK.plain _ _) (An (ContractT.wk (c_marks_Good' p0 p1 p2 p3 _ rfl) (r4 trivial)) (An rfl ?_))
 refine An (fun g1 => ?_) (fun g1 => ?_)
 replace h := cT g1 h
 refine eN ?_
 first | subst h | rw [← h]
 exact (r7 trivial)
 replace h := cF g1 h
 refine eN ?_
 first | subst h | rw [← h]
 exact (r7 trivial)

theorem c_poly_New (p0 : Int) (p1 : Int) (r : (api_Poly × Int)) (h : poly_New p0 p1 = some r) : Contract Tryz.prog 48 [.int .i64 p0, .int .i64 p1] [] (.tup [.agg (enc_api_Poly r.1), .int .i64 r.2]) [] := by
 refine contract_of_vcs tab_ok orders_ok Tryz.func48 Tryz.call48 (by kernel_rfl) 1 rfl rfl _ rfl ?_
 delta poly_New at h
 refine eN (eN (eN ?_))
 refine An (fun g1 => ?_) (fun g1 => ?_)
 refine An (fun g2 => ?_) (fun g2 => ?_)
 refine eX (CK.plain _ _) (An (ContractT.wk (c_poly_tick' p1 _ rfl) (r1 trivial)) (An rfl ?_))
 refine An (fun g3 => ?_) (fun g3 => ?_)
 replace h := cT (oR (oR g1 g2) g3) h
 refine eN ?_
 replace h := oJ h
 first | subst h | rw [← h]
 exact (r5 trivial)
 replace h := cF (oR (oR g1 g2) g3) h
 refine eN ?_
 obtain ⟨k3_5, h⟩ := ckS h
 refine An (oD k3_5) ?_
 replace h := oJ h
 first | subst h | rw [← h]
 exact (r3 (An ff (An lE (r1 trivial))))
 replace h := cT (oL (oR g1 g2)) h
 refine eN ?_
 replace h := oJ h
 first | subst h | rw [← h]
 exact (r5 trivial)
 replace h := cT (oL (oL g1)) h
 refine eN ?_
 replace h := oJ h
 first | subst h | rw [← h]
 exact (r5 trivial)

theorem c_halve_New (p0 : Int) (p1 : Int) (r : (api_Halve × Int)) (h : halve_New p0 p1 = some r) : Contract Tryz.prog 49 [.int .i64 p0, .int .i64 p1] [] (.tup [.agg [.int .i64 r.1.Now, .lst 1 false (List.map (eI .i64) r.1.Sums)], .int .i64 r.2]) [] := by
 refine contract_of_vcs tab_ok orders_ok Tryz.func49 Tryz.call49 (by kernel_rfl) 1 rfl rfl _ rfl ?_
 delta halve_New at h
 refine eN (eN (eN ?_))
 refine An (fun g1 => ?_) (fun g1 => ?_)
 refine An (fun g2 => ?_) (fun g2 => ?_)
 refine An (fun g3 => ?_) (fun g3 => ?_)
 refine An (fun g4 => ?_) (fun g4 => ?_)
 replace h := cT (oR (oR (oR g1 g2) g3) g4) h
 refine eN ?_
 replace h := oJ h
 first | subst h | rw [← h]
 exact (r3 trivial)
 replace h := cF (oR (oR (oR g1 g2) g3) g4) h
 refine eN ?_
 obtain ⟨k3_2, h⟩ := ckS h
 refine An (oD k3_2) ?_
 replace h := oJ h
 first | subst h | rw [← h]
 exact (r1 (An ff (An lE (r1 trivial))))
 replace h := cT (oL (oR (oR g1 g2) g3)) h
 refine eN ?_
 replace h := oJ h
 first | subst h | rw [← h]
 exact (r3 trivial)
 replace h := cT (oL (oL (oR g1 g2))) h
 refine eN ?_
 replace h := oJ h
 first | subst h | rw [← h]
 exact (r3 trivial)
 replace h := cT (oL (oL (oL g1))) h
 refine eN ?_
 replace h := oJ h
 first | subst h | rw [← h]
 exact (r3 trivial)

theorem c_extreme_New' (p0 : Bool) (p1 : Int) (p2 : Int) (p3 : Int) (r : (api_Extreme × Int)) (h : extreme_New p0 p1 p2 p3 = r) : Contract Tryz.prog 50 [.sb p0, .int .i64 p1, .int .i64 p2, .int .i64 p3] [] (.tup [.agg (enc_api_Extreme r.1), .int .i64 r.2]) [] := by
 refine contract_of_vcs tab_ok orders_ok Tryz.func50 Tryz.call50 (by kernel_rfl) 1 rfl rfl _ rfl ?_
 delta extreme_New at h
 refine eN (eN ?_)
 refine eX (CK.plain _ _) (An (ContractT.wk (c_extreme_good' p1 p2 p3 _ rfl) (r3 trivial)) (An rfl ?_))
 refine An (fun g1 => ?_) (fun g1 => ?_)
 replace h := cT g1 h
 refine eN ?_
 first | subst h | rw [← h]
 exact (r6 trivial)
 replace h := cF g1 h
 refine eN ?_
 first | subst h | rw [← h]
 exact (r6 trivial)

theorem c_chain_New' (p0 : Int) (p1 : Int) (r : (api_Chain × Int)) (h : chain_New p0 p1 = r) : Contract Tryz.prog 136 [.int .i64 p0, .int .i64 p1] [] (.tup [.agg (enc_api_Chain r.1), .int .i64 r.2]) [] := by
 refine contract_of_vcs tab_ok orders_ok Tryz.func136 Tryz.call136 (by kernel_rfl) 1 rfl rfl _ rfl ?_
 delta chain_New at h
 refine eN (eN (eN ?_))
 refine An (fun g1 => ?_) (fun g1 => ?_)
 refine An (fun g2 => ?_) (fun g2 => ?_)
 refine An (fun g3 => ?_) (fun g3 => ?_)
 refine An (fun g4 => ?_) (fun g4 => ?_)
 replace h := cT (oR (oR (oR g1 g2) g3) g4) h
 refine eN ?_
 first | subst h | rw [← h]
 exact (r6 trivial)
 replace h := cF (oR (oR (oR g1 g2) g3) g4) h
 refine eN ?_
 first | subst h | rw [← h]
 exact (r6 trivial)
 replace h := cT (oL (oR (oR g1 g2) g3)) h
 refine eN ?_
 first | subst h | rw [← h]
 exact (r6 trivial)
 replace h := cT (oL (oL (oR g1 g2))) h
 refine eN ?_
 first | subst h | rw [← h]
 exact (r6 trivial)
 replace h := cT (oL (oL (oL g1))) h
 refine eN ?_
 first | subst h | rw [← h]
 exact (r6 trivial)

theorem c_sample_New (p0 : Int) (p1 : Int) (p2 : Int) (r : (api_Sample × Int)) (h : sample_New p0 p1 p2 = some r) : Contract Tryz.prog 51 [.int .i64 p0, .int .i64 p1, .int .i64 p2] [] (.tup [.agg [.lst 5 false (List.map enc_api_Chain r.1.Chains)], .int .i64 r.2]) [] := by
 refine contract_of_vcs tab_ok orders_ok Tryz.func51 Tryz.call51 (by kernel_rfl) 1 rfl rfl _ rfl ?_
 delta sample_New at h
 refine eN (eN (eN ?_))
 refine An (fun g1 => ?_) (fun g1 => ?_)
 refine An (fun g2 => ?_) (fun g2 => ?_)
 replace h := cT (oR g1 g2) h
 refine eN ?_
 replace h := oJ h
 first | subst h | rw [← h]
 exact (r2 trivial)
 replace h := cF (oR g1 g2) h
 refine eN (eN ?_)
 replace h : sample_New_l3 p0 p1 p2 (0:Int) ([] : List api_Chain) = some r := h
 delta sample_New_l3 at h
 obtain ⟨n1, h⟩ := loopS h
 refine eX (Sum.inl ⟨(Int × (List api_Chain)) × Nat, fun q => [(.tmp 1, .av (.int .i64 p1)), (.tmp 2, .av (.int .i64 p2)), (.tmp 6, .av (.ptr 1 0)), (.tmp 8, .av (.ptr 513 0)), (.tmp 18, .av (.int .i64 p0)), (.tmp 19, .av (.int .i64 q.1.1)), (.box 1, .box [.nilS]), (.box 513, .box [.own 1024]), (.tok 1024, .tok 123 5 (List.map enc_api_Chain q.1.2))], fun q => loopN (fun (s : (Int × (List api_Chain))) => sample_New_l3s p0 p1 p2 s.1 s.2) q.2 q.1 = some r, fun q => q.2⟩) (An (eX [(1024, none)] (eX [] (eX (((0:Int), ([] : List api_Chain)), n1) (An h (r6 trivial))))) ?_)
 clear h
 refine fun q h => ?_
 obtain ⟨⟨v3_19, v3_b3x0_0⟩, n1⟩ := q
 obtain ⟨m1, x1, hm1, h, hl1, hr1⟩ := loopN_step h
 replace hm1 : n1 = m1 + 1 := hm1
 subst hm1
 replace h : sample_New_l3s p0 p1 p2 v3_19 v3_b3x0_0 = some x1 := h
 delta sample_New_l3s at h
 refine eN ?_
 refine An (fun g3 => ?_) (fun g3 => ?_)
 replace h := cT g3 h
 refine eN ?_
 refine eX (CK.plain _ _) (An (ContractT.wk (c_chain_New' p1 p2 _ rfl) (r2 trivial)) (An rfl ?_))
 refine eN ?_
 refine An (fun g4 => ?_) (fun g4 => ?_)
 replace h := cT g4 h
 refine eN ?_
 replace h := retS h hr1
 first | subst h | rw [← h]
 exact (r2 trivial)
 replace h := cF g4 h
 refine eN ?_
 obtain ⟨k9_4, h⟩ := ckS h
 refine An (kA (oD k9_4)) ?_
 refine eN ?_
 exact eX [(1024, some 1797)] (eX [] (eX (((w64 (v3_19 + (1:Int))), (v3_b3x0_0 ++ [(chain_New p1 p2).1])), m1) (An (hl1 ((w64 (v3_19 + (1:Int))), (v3_b3x0_0 ++ [(chain_New p1 p2).1])) (oJ h).symm) (An (Nat.lt_succ_self m1) (r5 (An lE trivial))))))
 replace h := cF g3 h
 replace h := popS h hr1
 refine eN ?_
 replace h := oJ h
 first | subst h | rw [← h]
 exact (fr (r1 trivial))
 replace h := cT (oL g1) h
 refine eN ?_
 replace h := oJ h
 first | subst h | rw [← h]
 exact (r2 trivial)

theorem c_summary_New' (p0 : Int) (p1 : Int) (r : (api_Summary × Int)) (h : summary_New p0 p1 = r) : Contract Tryz.prog 52 [.int .i64 p0, .int .i64 p1] [] (.tup [.agg (enc_api_Summary r.1), .int .i64 r.2]) [] := by
 refine contract_of_vcs tab_ok orders_ok Tryz.func52 Tryz.call52 (by kernel_rfl) 1 rfl rfl _ rfl ?_
 delta summary_New at h
 refine eN (eN (eN ?_))
 refine An (fun g1 => ?_) (fun g1 => ?_)
 refine An (fun g2 => ?_) (fun g2 => ?_)
 refine An (fun g3 => ?_) (fun g3 => ?_)
 refine An (fun g4 => ?_) (fun g4 => ?_)
 replace h := cT (oR (oR (oR g1 g2) g3) g4) h
 refine eN ?_
 first | subst h | rw [← h]
 exact (r5 trivial)
 replace h := cF (oR (oR (oR g1 g2) g3) g4) h
 refine eN ?_
 first | subst h | rw [← h]
 exact (r5 trivial)
 replace h := cT (oL (oR (oR g1 g2) g3)) h
 refine eN ?_
 first | subst h | rw [← h]
 exact (r5 trivial)
 replace h := cT (oL (oL (oR g1 g2))) h
 refine eN ?_
 first | subst h | rw [← h]
 exact (r5 trivial)
 replace h := cT (oL (oL (oL g1))) h
 refine eN ?_
 first | subst h | rw [← h]
 exact (r5 trivial)

theorem c_quantile_New' (p0 : Int) (p1 : Int) (p2 : Int) (p3 : Int) (r : (api_Quantile × Int)) (h : quantile_New p0 p1 p2 p3 = r) : Contract Tryz.prog 53 [.int .i64 p0, .int .i64 p1, .int .i64 p2, .int .i64 p3] [] (.tup [.agg (enc_api_Quantile r.1), .int .i64 r.2]) [] := by
 refine contract_of_vcs tab_ok orders_ok Tryz.func53 Tryz.call53 (by kernel_rfl) 1 rfl rfl _ rfl ?_
 delta quantile_New at h
 refine eN (eN ?_)
 refine eX (CK.plain _ _) (An (ContractT.wk (c_quantile_good' p0 p1 p2 p3 _ rfl) (r4 trivial)) (An rfl ?_))
 refine An (fun g1 => ?_) (fun g1 => ?_)
 replace h := cT g1 h
 refine eN ?_
 first | subst h | rw [← h]
 exact (r6 trivial)
 replace h := cF g1 h
 refine eN ?_
 first | subst h | rw [← h]
 exact (r6 trivial)

theorem c_synopsis_New (p0 : api_Config) (p1 : Int) (r : (api_Synopsis × Int)) (h : synopsis_New p0 p1 = some r) : Contract Tryz.prog 24 [.agg (enc_api_Config p0), .int .i64 p1] [] (.tup [.agg (enc_api_Synopsis r.1), .int .i64 r.2]) [] := by
 refine contract_of_vcs tab_ok orders_ok Tryz.func24 Tryz.call24 (by kernel_rfl) 1 rfl rfl _ rfl ?_
 delta synopsis_New at h
 refine eN (eN ?_)
 refine eX (CK.plain _ _) (An (ContractT.wk (c_config_Validate' p0 _ rfl) (r8 trivial)) (An rfl ?_))
 refine eN ?_
 refine An (fun g1 => ?_) (fun g1 => ?_)
 replace h := cT g1 h
 refine eN ?_
 replace h := oJ h
 first | subst h | rw [← h]
 exact (r48 (r8 (r2 trivial)))
 replace h := cF g1 h
 refine eN ?_
 refine eX (CK.plain _ _) (An (ContractT.wk (c_synopsis_tick' p1 _ rfl) (r1 trivial)) (An rfl ?_))
 refine An (fun g2 => ?_) (fun g2 => ?_)
 replace h := cT g2 h
 refine eN ?_
 replace h := oJ h
 first | subst h | rw [← h]
 exact (r48 (r8 (r2 trivial)))
 replace h := cF g2 h
 refine eN (eN (eN (eN (eN ?_))))
 refine eX (some (⟨Int × Int × Int × Int × (List api_Item) × Int × Int × Int × Int × (List api_Bucket) × Int × Int × Int × Int × Int × (List api_Bucket) × Int × Int × Int × Int × Int × Int × (List api_Mark) × Int × Int × Int × Int × Int × (List api_Mark) × Int × Int × Int × (List api_Wide) × Int × (List Int) × Bool × Int × Int × Int × (List api_Item) × (List api_Chain) × Int × Int × Int × (List api_Tuple) × Int × Int × Int × Int × (List api_Block), fun q => [(.tmp 4, .av (.ptr 2 0)), (.tmp 7, .av (.ptr 1027 0)), (.tmp 8, .av (.int .i64 q.1)), (.box 2, .box [.int .i64 (0:Int), .int .i64 (0:Int), .int .i64 (0:Int), .int .i64 (0:Int), .int .i64 (0:Int), .int .i64 (0:Int), .int .i64 (0:Int), .int .i64 (0:Int), .int .i64 (0:Int), .int .i64 (0:Int), .int .i64 (0:Int), .nilS, .int .i64 (0:Int), .int .i64 (0:Int), .int .i64 (0:Int), .int .i64 (0:Int), .nilS, .int .i64 (0:Int), .int .i64 (0:Int), .int .i64 (0:Int), .int .i64 (0:Int), .int .i64 (0:Int), .nilS, .int .i64 (0:Int), .int .i64 (0:Int), .int .i64 (0:Int), .int .i64 (0:Int), .int .i64 (0:Int), .int .i64 (0:Int), .nilS, .int .i64 (0:Int), .int .i64 (0:Int), .int .i64 (0:Int), .int .i64 (0:Int), .int .i64 (0:Int), .nilS, .int .i64 (0:Int), .int .i64 (0:Int), .int .i64 (0:Int), .nilS, .int .i64 (0:Int), .nilS, .bool false, .int .i64 (0:Int), .int .i64 (0:Int), .int .i64 (0:Int), .nilS, .nilS, .int .i64 (0:Int), .int .i64 (0:Int), .int .i64 (0:Int), .nilS, .int .i64 (0:Int), .int .i64 (0:Int), .int .i64 (0:Int), .int .i64 (0:Int), .nilS]), (.box 1027, .box (List.append (enc_api_Config p0) (.int .i64 q.2.1 :: (.int .i64 q.2.2.1 :: (.int .i64 q.2.2.2.1 :: (.lst 2 false (List.map enc_api_Item q.2.2.2.2.1) :: (.int .i64 q.2.2.2.2.2.1 :: (.int .i64 q.2.2.2.2.2.2.1 :: (.int .i64 q.2.2.2.2.2.2.2.1 :: (.int .i64 q.2.2.2.2.2.2.2.2.1 :: (.lst 2 false (List.map enc_api_Bucket q.2.2.2.2.2.2.2.2.2.1) :: (.int .i64 q.2.2.2.2.2.2.2.2.2.2.1 :: (.int .i64 q.2.2.2.2.2.2.2.2.2.2.2.1 :: (.int .i64 q.2.2.2.2.2.2.2.2.2.2.2.2.1 :: (.int .i64 q.2.2.2.2.2.2.2.2.2.2.2.2.2.1 :: (.int .i64 q.2.2.2.2.2.2.2.2.2.2.2.2.2.2.1 :: (.lst 2 false (List.map enc_api_Bucket q.2.2.2.2.2.2.2.2.2.2.2.2.2.2.2.1) :: (.int .i64 q.2.2.2.2.2.2.2.2.2.2.2.2.2.2.2.2.1 :: (.int .i64 q.2.2.2.2.2.2.2.2.2.2.2.2.2.2.2.2.2.1 :: (.int .i64 q.2.2.2.2.2.2.2.2.2.2.2.2.2.2.2.2.2.2.1 :: (.int .i64 q.2.2.2.2.2.2.2.2.2.2.2.2.2.2.2.2.2.2.2.1 :: (.int .i64 q.2.2.2.2.2.2.2.2.2.2.2.2.2.2.2.2.2.2.2.2.1 :: (.int .i64 q.2.2.2.2.2.2.2.2.2.2.2.2.2.2.2.2.2.2.2.2.2.1 :: (.lst 7 false (List.map enc_api_Mark q.2.2.2.2.2.2.2.2.2.2.2.2.2.2.2.2.2.2.2.2.2.2.1) :: (.int .i64 q.2.2.2.2.2.2.2.2.2.2.2.2.2.2.2.2.2.2.2.2.2.2.2.1 :: (.int .i64 q.2.2.2.2.2.2.2.2.2.2.2.2.2.2.2.2.2.2.2.2.2.2.2.2.1 :: (.int .i64 q.2.2.2.2.2.2.2.2.2.2.2.2.2.2.2.2.2.2.2.2.2.2.2.2.2.1 :: (.int .i64 q.2.2.2.2.2.2.2.2.2.2.2.2.2.2.2.2.2.2.2.2.2.2.2.2.2.2.1 :: (.int .i64 q.2.2.2.2.2.2.2.2.2.2.2.2.2.2.2.2.2.2.2.2.2.2.2.2.2.2.2.1 :: (.lst 7 false (List.map enc_api_Mark q.2.2.2.2.2.2.2.2.2.2.2.2.2.2.2.2.2.2.2.2.2.2.2.2.2.2.2.2.1) :: (.int .i64 q.2.2.2.2.2.2.2.2.2.2.2.2.2.2.2.2.2.2.2.2.2.2.2.2.2.2.2.2.2.1 :: (.int .i64 q.2.2.2.2.2.2.2.2.2.2.2.2.2.2.2.2.2.2.2.2.2.2.2.2.2.2.2.2.2.2.1 :: (.int .i64 q.2.2.2.2.2.2.2.2.2.2.2.2.2.2.2.2.2.2.2.2.2.2.2.2.2.2.2.2.2.2.2.1 :: (.lst 2 false (List.map enc_api_Wide q.2.2.2.2.2.2.2.2.2.2.2.2.2.2.2.2.2.2.2.2.2.2.2.2.2.2.2.2.2.2.2.2.1) :: (.int .i64 q.2.2.2.2.2.2.2.2.2.2.2.2.2.2.2.2.2.2.2.2.2.2.2.2.2.2.2.2.2.2.2.2.2.1 :: (.lst 1 false (List.map (eI .i64) q.2.2.2.2.2.2.2.2.2.2.2.2.2.2.2.2.2.2.2.2.2.2.2.2.2.2.2.2.2.2.2.2.2.2.1) :: (.sb q.2.2.2.2.2.2.2.2.2.2.2.2.2.2.2.2.2.2.2.2.2.2.2.2.2.2.2.2.2.2.2.2.2.2.2.1 :: (.int .i64 q.2.2.2.2.2.2.2.2.2.2.2.2.2.2.2.2.2.2.2.2.2.2.2.2.2.2.2.2.2.2.2.2.2.2.2.2.1 :: (.int .i64 q.2.2.2.2.2.2.2.2.2.2.2.2.2.2.2.2.2.2.2.2.2.2.2.2.2.2.2.2.2.2.2.2.2.2.2.2.2.1 :: (.int .i64 q.2.2.2.2.2.2.2.2.2.2.2.2.2.2.2.2.2.2.2.2.2.2.2.2.2.2.2.2.2.2.2.2.2.2.2.2.2.2.1 :: (.lst 2 false (List.map enc_api_Item q.2.2.2.2.2.2.2.2.2.2.2.2.2.2.2.2.2.2.2.2.2.2.2.2.2.2.2.2.2.2.2.2.2.2.2.2.2.2.2.1) :: (.lst 5 false (List.map enc_api_Chain q.2.2.2.2.2.2.2.2.2.2.2.2.2.2.2.2.2.2.2.2.2.2.2.2.2.2.2.2.2.2.2.2.2.2.2.2.2.2.2.2.1) :: (.int .i64 q.2.2.2.2.2.2.2.2.2.2.2.2.2.2.2.2.2.2.2.2.2.2.2.2.2.2.2.2.2.2.2.2.2.2.2.2.2.2.2.2.2.1 :: (.int .i64 q.2.2.2.2.2.2.2.2.2.2.2.2.2.2.2.2.2.2.2.2.2.2.2.2.2.2.2.2.2.2.2.2.2.2.2.2.2.2.2.2.2.2.1 :: (.int .i64 q.2.2.2.2.2.2.2.2.2.2.2.2.2.2.2.2.2.2.2.2.2.2.2.2.2.2.2.2.2.2.2.2.2.2.2.2.2.2.2.2.2.2.2.1 :: (.lst 3 false (List.map enc_api_Tuple q.2.2.2.2.2.2.2.2.2.2.2.2.2.2.2.2.2.2.2.2.2.2.2.2.2.2.2.2.2.2.2.2.2.2.2.2.2.2.2.2.2.2.2.2.1) :: (.int .i64 q.2.2.2.2.2.2.2.2.2.2.2.2.2.2.2.2.2.2.2.2.2.2.2.2.2.2.2.2.2.2.2.2.2.2.2.2.2.2.2.2.2.2.2.2.2.1 :: (.int .i64 q.2.2.2.2.2.2.2.2.2.2.2.2.2.2.2.2.2.2.2.2.2.2.2.2.2.2.2.2.2.2.2.2.2.2.2.2.2.2.2.2.2.2.2.2.2.2.1 :: (.int .i64 q.2.2.2.2.2.2.2.2.2.2.2.2.2.2.2.2.2.2.2.2.2.2.2.2.2.2.2.2.2.2.2.2.2.2.2.2.2.2.2.2.2.2.2.2.2.2.2.1 :: (.int .i64 q.2.2.2.2.2.2.2.2.2.2.2.2.2.2.2.2.2.2.2.2.2.2.2.2.2.2.2.2.2.2.2.2.2.2.2.2.2.2.2.2.2.2.2.2.2.2.2.2.1 :: (.lst 5 false (List.map enc_api_Block q.2.2.2.2.2.2.2.2.2.2.2.2.2.2.2.2.2.2.2.2.2.2.2.2.2.2.2.2.2.2.2.2.2.2.2.2.2.2.2.2.2.2.2.2.2.2.2.2.2) :: [])))))))))))))))))))))))))))))))))))))))))))))))))))], fun q => synopsis_New_j4 p0 q.1 q.2.1 q.2.2.1 q.2.2.2.1 q.2.2.2.2.1 q.2.2.2.2.2.1 q.2.2.2.2.2.2.1 q.2.2.2.2.2.2.2.1 q.2.2.2.2.2.2.2.2.1 q.2.2.2.2.2.2.2.2.2.1 q.2.2.2.2.2.2.2.2.2.2.1 q.2.2.2.2.2.2.2.2.2.2.2.1 q.2.2.2.2.2.2.2.2.2.2.2.2.1 q.2.2.2.2.2.2.2.2.2.2.2.2.2.1 q.2.2.2.2.2.2.2.2.2.2.2.2.2.2.1 q.2.2.2.2.2.2.2.2.2.2.2.2.2.2.2.1 q.2.2.2.2.2.2.2.2.2.2.2.2.2.2.2.2.1 q.2.2.2.2.2.2.2.2.2.2.2.2.2.2.2.2.2.1 q.2.2.2.2.2.2.2.2.2.2.2.2.2.2.2.2.2.2.1 q.2.2.2.2.2.2.2.2.2.2.2.2.2.2.2.2.2.2.2.1 q.2.2.2.2.2.2.2.2.2.2.2.2.2.2.2.2.2.2.2.2.1 q.2.2.2.2.2.2.2.2.2.2.2.2.2.2.2.2.2.2.2.2.2.1 q.2.2.2.2.2.2.2.2.2.2.2.2.2.2.2.2.2.2.2.2.2.2.1 q.2.2.2.2.2.2.2.2.2.2.2.2.2.2.2.2.2.2.2.2.2.2.2.1 q.2.2.2.2.2.2.2.2.2.2.2.2.2.2.2.2.2.2.2.2.2.2.2.2.1 q.2.2.2.2.2.2.2.2.2.2.2.2.2.2.2.2.2.2.2.2.2.2.2.2.2.1 q.2.2.2.2.2.2.2.2.2.2.2.2.2.2.2.2.2.2.2.2.2.2.2.2.2.2.1 q.2.2.2.2.2.2.2.2.2.2.2.2.2.2.2.2.2.2.2.2.2.2.2.2.2.2.2.1 q.2.2.2.2.2.2.2.2.2.2.2.2.2.2.2.2.2.2.2.2.2.2.2.2.2.2.2.2.1 q.2.2.2.2.2.2.2.2.2.2.2.2.2.2.2.2.2.2.2.2.2.2.2.2.2.2.2.2.2.1 q.2.2.2.2.2.2.2.2.2.2.2.2.2.2.2.2.2.2.2.2.2.2.2.2.2.2.2.2.2.2.1 q.2.2.2.2.2.2.2.2.2.2.2.2.2.2.2.2.2.2.2.2.2.2.2.2.2.2.2.2.2.2.2.1 q.2.2.2.2.2.2.2.2.2.2.2.2.2.2.2.2.2.2.2.2.2.2.2.2.2.2.2.2.2.2.2.2.1 q.2.2.2.2.2.2.2.2.2.2.2.2.2.2.2.2.2.2.2.2.2.2.2.2.2.2.2.2.2.2.2.2.2.1 q.2.2.2.2.2.2.2.2.2.2.2.2.2.2.2.2.2.2.2.2.2.2.2.2.2.2.2.2.2.2.2.2.2.2.1 q.2.2.2.2.2.2.2.2.2.2.2.2.2.2.2.2.2.2.2.2.2.2.2.2.2.2.2.2.2.2.2.2.2.2.2.1 q.2.2.2.2.2.2.2.2.2.2.2.2.2.2.2.2.2.2.2.2.2.2.2.2.2.2.2.2.2.2.2.2.2.2.2.2.1 q.2.2.2.2.2.2.2.2.2.2.2.2.2.2.2.2.2.2.2.2.2.2.2.2.2.2.2.2.2.2.2.2.2.2.2.2.2.1 q.2.2.2.2.2.2.2.2.2.2.2.2.2.2.2.2.2.2.2.2.2.2.2.2.2.2.2.2.2.2.2.2.2.2.2.2.2.2.1 q.2.2.2.2.2.2.2.2.2.2.2.2.2.2.2.2.2.2.2.2.2.2.2.2.2.2.2.2.2.2.2.2.2.2.2.2.2.2.2.1 q.2.2.2.2.2.2.2.2.2.2.2.2.2.2.2.2.2.2.2.2.2.2.2.2.2.2.2.2.2.2.2.2.2.2.2.2.2.2.2.2.1 q.2.2.2.2.2.2.2.2.2.2.2.2.2.2.2.2.2.2.2.2.2.2.2.2.2.2.2.2.2.2.2.2.2.2.2.2.2.2.2.2.2.1 q.2.2.2.2.2.2.2.2.2.2.2.2.2.2.2.2.2.2.2.2.2.2.2.2.2.2.2.2.2.2.2.2.2.2.2.2.2.2.2.2.2.2.1 q.2.2.2.2.2.2.2.2.2.2.2.2.2.2.2.2.2.2.2.2.2.2.2.2.2.2.2.2.2.2.2.2.2.2.2.2.2.2.2.2.2.2.2.1 q.2.2.2.2.2.2.2.2.2.2.2.2.2.2.2.2.2.2.2.2.2.2.2.2.2.2.2.2.2.2.2.2.2.2.2.2.2.2.2.2.2.2.2.2.1 q.2.2.2.2.2.2.2.2.2.2.2.2.2.2.2.2.2.2.2.2.2.2.2.2.2.2.2.2.2.2.2.2.2.2.2.2.2.2.2.2.2.2.2.2.2.1 q.2.2.2.2.2.2.2.2.2.2.2.2.2.2.2.2.2.2.2.2.2.2.2.2.2.2.2.2.2.2.2.2.2.2.2.2.2.2.2.2.2.2.2.2.2.2.1 q.2.2.2.2.2.2.2.2.2.2.2.2.2.2.2.2.2.2.2.2.2.2.2.2.2.2.2.2.2.2.2.2.2.2.2.2.2.2.2.2.2.2.2.2.2.2.2.1 q.2.2.2.2.2.2.2.2.2.2.2.2.2.2.2.2.2.2.2.2.2.2.2.2.2.2.2.2.2.2.2.2.2.2.2.2.2.2.2.2.2.2.2.2.2.2.2.2.1 q.2.2.2.2.2.2.2.2.2.2.2.2.2.2.2.2.2.2.2.2.2.2.2.2.2.2.2.2.2.2.2.2.2.2.2.2.2.2.2.2.2.2.2.2.2.2.2.2.2 = some r, fun _ => 0⟩, 1000000)) (An ?_ ?_)
 refine An (fun g3 => ?_) (fun g3 => ?_)
 replace h := cT g3 h
 refine eN ?_
 refine eX (CK.plain _ _) (An (ContractT.wk (c_recent_New' p0.W p0.Cap p1 _ rfl) (r3 trivial)) (An rfl ?_))
 exact eX [] (eX [] (eX ((recent_New p0.W p0.Cap p1).2, (recent_New p0.W p0.Cap p1).1.W, (recent_New p0.W p0.Cap p1).1.Cap, (recent_New p0.W p0.Cap p1).1.Now, (recent_New p0.W p0.Cap p1).1.Items, (0:Int), (0:Int), (0:Int), (0:Int), ([] : List api_Bucket), (0:Int), (0:Int), (0:Int), (0:Int), (0:Int), ([] : List api_Bucket), (0:Int), (0:Int), (0:Int), (0:Int), (0:Int), (0:Int), ([] : List api_Mark), (0:Int), (0:Int), (0:Int), (0:Int), (0:Int), ([] : List api_Mark), (0:Int), (0:Int), (0:Int), ([] : List api_Wide), (0:Int), ([] : List Int), false, (0:Int), (0:Int), (0:Int), ([] : List api_Item), ([] : List api_Chain), (0:Int), (0:Int), (0:Int), ([] : List api_Tuple), (0:Int), (0:Int), (0:Int), (0:Int), ([] : List api_Block)) (An h (r48 (r8 (r3 (fr (r32 (r12 (r1 trivial))))))))))
 replace h := cF g3 h
 refine eN (eN ?_)
 refine An (fun g4 => ?_) (fun g4 => ?_)
 replace h := cT g4 h
 refine eN ?_
 refine eX (CK.plain _ _) (An (ContractT.wk (c_count_New' p0.W p0.K p0.Cap p1 _ rfl) (r4 trivial)) (An rfl ?_))
 exact eX [] (eX [] (eX ((count_New p0.W p0.K p0.Cap p1).2, (0:Int), (0:Int), (0:Int), ([] : List api_Item), (count_New p0.W p0.K p0.Cap p1).1.W, (count_New p0.W p0.K p0.Cap p1).1.K, (count_New p0.W p0.K p0.Cap p1).1.Cap, (count_New p0.W p0.K p0.Cap p1).1.Now, (count_New p0.W p0.K p0.Cap p1).1.Buckets, (0:Int), (0:Int), (0:Int), (0:Int), (0:Int), ([] : List api_Bucket), (0:Int), (0:Int), (0:Int), (0:Int), (0:Int), (0:Int), ([] : List api_Mark), (0:Int), (0:Int), (0:Int), (0:Int), (0:Int), ([] : List api_Mark), (0:Int), (0:Int), (0:Int), ([] : List api_Wide), (0:Int), ([] : List Int), false, (0:Int), (0:Int), (0:Int), ([] : List api_Item), ([] : List api_Chain), (0:Int), (0:Int), (0:Int), ([] : List api_Tuple), (0:Int), (0:Int), (0:Int), (0:Int), ([] : List api_Block)) (An h (r64 (fr (r32 (r8 trivial)))))))
 replace h := cF g4 h
 refine eN (eN ?_)
 refine An (fun g5 => ?_) (fun g5 => ?_)
 replace h := cT g5 h
 refine eN ?_
 refine eX (CK.plain _ _) (An (ContractT.wk (c_sum_New' p0.W p0.K p0.Cap p0.Max p1 _ rfl) (r5 trivial)) (An rfl ?_))
 exact eX [] (eX [] (eX ((sum_New p0.W p0.K p0.Cap p0.Max p1).2, (0:Int), (0:Int), (0:Int), ([] : List api_Item), (0:Int), (0:Int), (0:Int), (0:Int), ([] : List api_Bucket), (sum_New p0.W p0.K p0.Cap p0.Max p1).1.W, (sum_New p0.W p0.K p0.Cap p0.Max p1).1.K, (sum_New p0.W p0.K p0.Cap p0.Max p1).1.Cap, (sum_New p0.W p0.K p0.Cap p0.Max p1).1.Max, (sum_New p0.W p0.K p0.Cap p0.Max p1).1.Now, (sum_New p0.W p0.K p0.Cap p0.Max p1).1.Buckets, (0:Int), (0:Int), (0:Int), (0:Int), (0:Int), (0:Int), ([] : List api_Mark), (0:Int), (0:Int), (0:Int), (0:Int), (0:Int), ([] : List api_Mark), (0:Int), (0:Int), (0:Int), ([] : List api_Wide), (0:Int), ([] : List Int), false, (0:Int), (0:Int), (0:Int), ([] : List api_Item), ([] : List api_Chain), (0:Int), (0:Int), (0:Int), ([] : List api_Tuple), (0:Int), (0:Int), (0:Int), (0:Int), ([] : List api_Block)) (An h (r64 (r6 (fr (r32 (r2 trivial))))))))
 replace h := cF g5 h
 refine eN (eN ?_)
 refine An (fun g6 => ?_) (fun g6 => ?_)
 replace h := cT g6 h
 refine eN ?_
 refine eX (CK.plain _ _) (An (ContractT.wk (c_smooth_New' p0.Agg p0.W p0.K p0.Cap p1 _ rfl) (r5 trivial)) (An rfl ?_))
 exact eX [] (eX [] (eX ((smooth_New p0.Agg p0.W p0.K p0.Cap p1).2, (0:Int), (0:Int), (0:Int), ([] : List api_Item), (0:Int), (0:Int), (0:Int), (0:Int), ([] : List api_Bucket), (0:Int), (0:Int), (0:Int), (0:Int), (0:Int), ([] : List api_Bucket), (smooth_New p0.Agg p0.W p0.K p0.Cap p1).1.Agg, (smooth_New p0.Agg p0.W p0.K p0.Cap p1).1.W, (smooth_New p0.Agg p0.W p0.K p0.Cap p1).1.K, (smooth_New p0.Agg p0.W p0.K p0.Cap p1).1.Cap, (smooth_New p0.Agg p0.W p0.K p0.Cap p1).1.Now, (smooth_New p0.Agg p0.W p0.K p0.Cap p1).1.Seq, (smooth_New p0.Agg p0.W p0.K p0.Cap p1).1.Marks, (0:Int), (0:Int), (0:Int), (0:Int), (0:Int), ([] : List api_Mark), (0:Int), (0:Int), (0:Int), ([] : List api_Wide), (0:Int), ([] : List Int), false, (0:Int), (0:Int), (0:Int), ([] : List api_Item), ([] : List api_Chain), (0:Int), (0:Int), (0:Int), ([] : List api_Tuple), (0:Int), (0:Int), (0:Int), (0:Int), ([] : List api_Block)) (An h (r64 (r12 (r1 (fr (r24 (r3 trivial)))))))))
 replace h := cF g6 h
 refine eN (eN ?_)
 refine An (fun g7 => ?_) (fun g7 => ?_)
 replace h := cT g7 h
 refine eN ?_
 refine eX (CK.plain _ _) (An (ContractT.wk (c_spread_New' p0.W p0.K p0.Cap p1 _ rfl) (r4 trivial)) (An rfl ?_))
 exact eX [] (eX [] (eX ((spread_New p0.W p0.K p0.Cap p1).2, (0:Int), (0:Int), (0:Int), ([] : List api_Item), (0:Int), (0:Int), (0:Int), (0:Int), ([] : List api_Bucket), (0:Int), (0:Int), (0:Int), (0:Int), (0:Int), ([] : List api_Bucket), (0:Int), (0:Int), (0:Int), (0:Int), (0:Int), (0:Int), ([] : List api_Mark), (spread_New p0.W p0.K p0.Cap p1).1.W, (spread_New p0.W p0.K p0.Cap p1).1.K, (spread_New p0.W p0.K p0.Cap p1).1.Cap, (spread_New p0.W p0.K p0.Cap p1).1.Now, (spread_New p0.W p0.K p0.Cap p1).1.Seq, (spread_New p0.W p0.K p0.Cap p1).1.Marks, (0:Int), (0:Int), (0:Int), ([] : List api_Wide), (0:Int), ([] : List Int), false, (0:Int), (0:Int), (0:Int), ([] : List api_Item), ([] : List api_Chain), (0:Int), (0:Int), (0:Int), ([] : List api_Tuple), (0:Int), (0:Int), (0:Int), (0:Int), ([] : List api_Block)) (An h (r64 (r16 (r3 (fr (r16 (r5 trivial)))))))))
 replace h := cF g7 h
 refine eN (eN ?_)
 refine An (fun g8 => ?_) (fun g8 => ?_)
 replace h := cT g8 h
 refine eN ?_
 obtain ⟨y20_3, e20_3, h⟩ := bS h
 refine eX (CK.plain _ _) (An (ContractT.wk (c_poly_New p0.P p1 y20_3 e20_3) (r2 trivial)) (An rfl ?_))
 exact eX [] (eX [] (eX (y20_3.2, (0:Int), (0:Int), (0:Int), ([] : List api_Item), (0:Int), (0:Int), (0:Int), (0:Int), ([] : List api_Bucket), (0:Int), (0:Int), (0:Int), (0:Int), (0:Int), ([] : List api_Bucket), (0:Int), (0:Int), (0:Int), (0:Int), (0:Int), (0:Int), ([] : List api_Mark), (0:Int), (0:Int), (0:Int), (0:Int), (0:Int), ([] : List api_Mark), y20_3.1.P, y20_3.1.Land, y20_3.1.Now, y20_3.1.Moments, (0:Int), ([] : List Int), false, (0:Int), (0:Int), (0:Int), ([] : List api_Item), ([] : List api_Chain), (0:Int), (0:Int), (0:Int), ([] : List api_Tuple), (0:Int), (0:Int), (0:Int), (0:Int), ([] : List api_Block)) (An h (r64 (r16 (r7 (fr (r16 (r1 trivial)))))))))
 replace h := cF g8 h
 refine eN (eN ?_)
 refine An (fun g9 => ?_) (fun g9 => ?_)
 replace h := cT g9 h
 refine eN ?_
 obtain ⟨y22_3, e22_3, h⟩ := bS h
 refine eX (CK.plain _ _) (An (ContractT.wk (c_halve_New p0.W p1 y22_3 e22_3) (r2 trivial)) (An rfl ?_))
 exact eX [] (eX [] (eX (y22_3.2, (0:Int), (0:Int), (0:Int), ([] : List api_Item), (0:Int), (0:Int), (0:Int), (0:Int), ([] : List api_Bucket), (0:Int), (0:Int), (0:Int), (0:Int), (0:Int), ([] : List api_Bucket), (0:Int), (0:Int), (0:Int), (0:Int), (0:Int), (0:Int), ([] : List api_Mark), (0:Int), (0:Int), (0:Int), (0:Int), (0:Int), ([] : List api_Mark), (0:Int), (0:Int), (0:Int), ([] : List api_Wide), y22_3.1.Now, y22_3.1.Sums, false, (0:Int), (0:Int), (0:Int), ([] : List api_Item), ([] : List api_Chain), (0:Int), (0:Int), (0:Int), ([] : List api_Tuple), (0:Int), (0:Int), (0:Int), (0:Int), ([] : List api_Block)) (An h (r64 (r24 (r1 (fr (r12 (r3 trivial)))))))))
 replace h := cF g9 h
 refine eN (eN ?_)
 refine An (fun g10 => ?_) (fun g10 => ?_)
 replace h := cT g10 h
 refine eN ?_
 refine eX (CK.plain _ _) (An (ContractT.wk (c_extreme_New' (p0.Max == (1:Int)) p0.W p0.Cap p1 _ rfl) (r4 trivial)) (An rfl ?_))
 exact eX [] (eX [] (eX ((extreme_New (p0.Max == (1:Int)) p0.W p0.Cap p1).2, (0:Int), (0:Int), (0:Int), ([] : List api_Item), (0:Int), (0:Int), (0:Int), (0:Int), ([] : List api_Bucket), (0:Int), (0:Int), (0:Int), (0:Int), (0:Int), ([] : List api_Bucket), (0:Int), (0:Int), (0:Int), (0:Int), (0:Int), (0:Int), ([] : List api_Mark), (0:Int), (0:Int), (0:Int), (0:Int), (0:Int), ([] : List api_Mark), (0:Int), (0:Int), (0:Int), ([] : List api_Wide), (0:Int), ([] : List Int), (extreme_New (p0.Max == (1:Int)) p0.W p0.Cap p1).1.Max, (extreme_New (p0.Max == (1:Int)) p0.W p0.Cap p1).1.W, (extreme_New (p0.Max == (1:Int)) p0.W p0.Cap p1).1.Cap, (extreme_New (p0.Max == (1:Int)) p0.W p0.Cap p1).1.Now, (extreme_New (p0.Max == (1:Int)) p0.W p0.Cap p1).1.Items, ([] : List api_Chain), (0:Int), (0:Int), (0:Int), ([] : List api_Tuple), (0:Int), (0:Int), (0:Int), (0:Int), ([] : List api_Block)) (An h (r64 (r24 (r6 (fr (r8 (r2 trivial)))))))))
 replace h := cF g10 h
 refine eN (eN ?_)
 refine An (fun g11 => ?_) (fun g11 => ?_)
 replace h := cT g11 h
 refine eN ?_
 obtain ⟨y26_6, e26_6, h⟩ := bS h
 refine eX (CK.plain _ _) (An (ContractT.wk (c_sample_New p0.Chains p0.W p0.Cap y26_6 e26_6) (r3 trivial)) (An rfl ?_))
 exact eX [] (eX [] (eX (y26_6.2, (0:Int), (0:Int), (0:Int), ([] : List api_Item), (0:Int), (0:Int), (0:Int), (0:Int), ([] : List api_Bucket), (0:Int), (0:Int), (0:Int), (0:Int), (0:Int), ([] : List api_Bucket), (0:Int), (0:Int), (0:Int), (0:Int), (0:Int), (0:Int), ([] : List api_Mark), (0:Int), (0:Int), (0:Int), (0:Int), (0:Int), ([] : List api_Mark), (0:Int), (0:Int), (0:Int), ([] : List api_Wide), (0:Int), ([] : List Int), false, (0:Int), (0:Int), (0:Int), ([] : List api_Item), y26_6.1.Chains, (0:Int), (0:Int), (0:Int), ([] : List api_Tuple), (0:Int), (0:Int), (0:Int), (0:Int), ([] : List api_Block)) (An h (r64 (r24 (r7 (fr (r8 (r1 trivial)))))))))
 replace h := cF g11 h
 refine eN (eN ?_)
 refine An (fun g12 => ?_) (fun g12 => ?_)
 replace h := cT g12 h
 refine eN ?_
 refine eX (CK.plain _ _) (An (ContractT.wk (c_summary_New' p0.K p0.Cap _ rfl) (r2 trivial)) (An rfl ?_))
 exact eX [] (eX [] (eX ((summary_New p0.K p0.Cap).2, (0:Int), (0:Int), (0:Int), ([] : List api_Item), (0:Int), (0:Int), (0:Int), (0:Int), ([] : List api_Bucket), (0:Int), (0:Int), (0:Int), (0:Int), (0:Int), ([] : List api_Bucket), (0:Int), (0:Int), (0:Int), (0:Int), (0:Int), (0:Int), ([] : List api_Mark), (0:Int), (0:Int), (0:Int), (0:Int), (0:Int), ([] : List api_Mark), (0:Int), (0:Int), (0:Int), ([] : List api_Wide), (0:Int), ([] : List Int), false, (0:Int), (0:Int), (0:Int), ([] : List api_Item), ([] : List api_Chain), (summary_New p0.K p0.Cap).1.K, (summary_New p0.K p0.Cap).1.Cap, (summary_New p0.K p0.Cap).1.N, (summary_New p0.K p0.Cap).1.Tuples, (0:Int), (0:Int), (0:Int), (0:Int), ([] : List api_Block)) (An h (r64 (r32 (r3 (fr (r5 trivial))))))))
 replace h := cF g12 h
 refine eN (eN ?_)
 refine An (fun g13 => ?_) (fun g13 => ?_)
 replace h := cT g13 h
 refine eN ?_
 refine eX (CK.plain _ _) (An (ContractT.wk (c_quantile_New' p0.W p0.K p0.Cap p1 _ rfl) (r4 trivial)) (An rfl ?_))
 exact eX [] (eX [] (eX ((quantile_New p0.W p0.K p0.Cap p1).2, (0:Int), (0:Int), (0:Int), ([] : List api_Item), (0:Int), (0:Int), (0:Int), (0:Int), ([] : List api_Bucket), (0:Int), (0:Int), (0:Int), (0:Int), (0:Int), ([] : List api_Bucket), (0:Int), (0:Int), (0:Int), (0:Int), (0:Int), (0:Int), ([] : List api_Mark), (0:Int), (0:Int), (0:Int), (0:Int), (0:Int), ([] : List api_Mark), (0:Int), (0:Int), (0:Int), ([] : List api_Wide), (0:Int), ([] : List Int), false, (0:Int), (0:Int), (0:Int), ([] : List api_Item), ([] : List api_Chain), (0:Int), (0:Int), (0:Int), ([] : List api_Tuple), (quantile_New p0.W p0.K p0.Cap p1).1.W, (quantile_New p0.W p0.K p0.Cap p1).1.K, (quantile_New p0.W p0.K p0.Cap p1).1.Cap, (quantile_New p0.W p0.K p0.Cap p1).1.Now, (quantile_New p0.W p0.K p0.Cap p1).1.Blocks) (An h (r64 (r32 (r8 (fr trivial)))))))
 replace h := cF g13 h
 exact eX [] (eX [] (eX ((0:Int), (0:Int), (0:Int), (0:Int), ([] : List api_Item), (0:Int), (0:Int), (0:Int), (0:Int), ([] : List api_Bucket), (0:Int), (0:Int), (0:Int), (0:Int), (0:Int), ([] : List api_Bucket), (0:Int), (0:Int), (0:Int), (0:Int), (0:Int), (0:Int), ([] : List api_Mark), (0:Int), (0:Int), (0:Int), (0:Int), (0:Int), ([] : List api_Mark), (0:Int), (0:Int), (0:Int), ([] : List api_Wide), (0:Int), ([] : List Int), false, (0:Int), (0:Int), (0:Int), ([] : List api_Item), ([] : List api_Chain), (0:Int), (0:Int), (0:Int), ([] : List api_Tuple), (0:Int), (0:Int), (0:Int), (0:Int), ([] : List api_Block)) (An h (r64 (r32 (r8 (r1 trivial)))))))
 clear h
 refine fun q h => ?_
 obtain ⟨j4_8, j4_b6x2_8, j4_b6x2_9, j4_b6x2_10, j4_b6x2_11, j4_b6x2_12, j4_b6x2_13, j4_b6x2_14, j4_b6x2_15, j4_b6x2_16, j4_b6x2_17, j4_b6x2_18, j4_b6x2_19, j4_b6x2_20, j4_b6x2_21, j4_b6x2_22, j4_b6x2_23, j4_b6x2_24, j4_b6x2_25, j4_b6x2_26, j4_b6x2_27, j4_b6x2_28, j4_b6x2_29, j4_b6x2_30, j4_b6x2_31, j4_b6x2_32, j4_b6x2_33, j4_b6x2_34, j4_b6x2_35, j4_b6x2_36, j4_b6x2_37, j4_b6x2_38, j4_b6x2_39, j4_b6x2_40, j4_b6x2_41, j4_b6x2_42, j4_b6x2_43, j4_b6x2_44, j4_b6x2_45, j4_b6x2_46, j4_b6x2_47, j4_b6x2_48, j4_b6x2_49, j4_b6x2_50, j4_b6x2_51, j4_b6x2_52, j4_b6x2_53, j4_b6x2_54, j4_b6x2_55, j4_b6x2_56⟩ := q
 replace h : synopsis_New_j4 p0 j4_8 j4_b6x2_8 j4_b6x2_9 j4_b6x2_10 j4_b6x2_11 j4_b6x2_12 j4_b6x2_13 j4_b6x2_14 j4_b6x2_15 j4_b6x2_16 j4_b6x2_17 j4_b6x2_18 j4_b6x2_19 j4_b6x2_20 j4_b6x2_21 j4_b6x2_22 j4_b6x2_23 j4_b6x2_24 j4_b6x2_25 j4_b6x2_26 j4_b6x2_27 j4_b6x2_28 j4_b6x2_29 j4_b6x2_30 j4_b6x2_31 j4_b6x2_32 j4_b6x2_33 j4_b6x2_34 j4_b6x2_35 j4_b6x2_36 j4_b6x2_37 j4_b6x2_38 j4_b6x2_39 j4_b6x2_40 j4_b6x2_41 j4_b6x2_42 j4_b6x2_43 j4_b6x2_44 j4_b6x2_45 j4_b6x2_46 j4_b6x2_47 j4_b6x2_48 j4_b6x2_49 j4_b6x2_50 j4_b6x2_51 j4_b6x2_52 j4_b6x2_53 j4_b6x2_54 j4_b6x2_55 j4_b6x2_56 = some r := h
 delta synopsis_New_j4 at h
 refine eN ?_
 refine An (fun g14 => ?_) (fun g14 => ?_)
 replace h := cT g14 h
 refine eN ?_
 replace h := oJ h
 first | subst h | rw [← h]
 exact (r48 (r8 (r2 trivial)))
 replace h := cF g14 h
 refine eN ?_
 replace h := oJ h
 first | subst h | rw [← h]
 exact (r8 (r3 (fr (r4 (fr (r5 (fr (r6 (fr (r5 (fr (r3 (fr (r1 (fr (r4 (fr (fr (r3 (fr (r4 (fr (r1 trivial)))))))))))))))))))))))

theorem c_ref09_New' (p0 : Int) (p1 : Int) (p2 : Int) (r : (api_Recent × Int)) (h : ref09_New p0 p1 p2 = r) : Contract Tryz.prog 56 [.int .i64 p0, .int .i64 p1, .int .i64 p2] [] (.tup [.agg (enc_api_Recent r.1), .int .i64 r.2]) [] := by
 refine contract_of_vcs tab_ok orders_ok Tryz.func56 Tryz.call56 (by kernel_rfl) 1 rfl rfl _ rfl ?_
 delta ref09_New at h
 refine eN (eN ?_)
 refine eX (CK.plain _ _) (An (ContractT.wk (c_ref09_May' p0 p1 p2 _ rfl) (r3 trivial)) (An rfl ?_))
 refine An (fun g1 => ?_) (fun g1 => ?_)
 replace h := cT g1 h
 refine eN ?_
 first | subst h | rw [← h]
 exact (r5 trivial)
 replace h := cF g1 h
 refine eN ?_
 first | subst h | rw [← h]
 exact (r5 trivial)

theorem c_ref11_New' (p0 : Int) (p1 : Int) (p2 : Int) (p3 : Int) (r : (api_Count × Int)) (h : ref11_New p0 p1 p2 p3 = r) : Contract Tryz.prog 57 [.int .i64 p0, .int .i64 p1, .int .i64 p2, .int .i64 p3] [] (.tup [.agg (enc_api_Count r.1), .int .i64 r.2]) [] := by
 refine contract_of_vcs tab_ok orders_ok Tryz.func57 Tryz.call57 (by kernel_rfl) 1 rfl rfl _ rfl ?_
 delta ref11_New at h
 refine eN (eN (eN ?_))
 refine eX (CK.plain _ _) (An (ContractT.wk (c_ref09_May' p0 p2 p3 _ rfl) (r3 trivial)) (An rfl ?_))
 refine An (fun g1 => ?_) (fun g1 => ?_)
 refine eX (CK.plain _ _) (An (ContractT.wk (c_ref11_MayK' p1 _ rfl) (r1 trivial)) (An rfl ?_))
 refine An (fun g2 => ?_) (fun g2 => ?_)
 replace h := cT (oR g1 g2) h
 refine eN ?_
 first | subst h | rw [← h]
 exact (r6 trivial)
 replace h := cF (oR g1 g2) h
 refine eN ?_
 first | subst h | rw [← h]
 exact (r6 trivial)
 replace h := cT (oL g1) h
 refine eN ?_
 first | subst h | rw [← h]
 exact (r6 trivial)

theorem c_ref12_New' (p0 : Int) (p1 : Int) (p2 : Int) (p3 : Int) (p4 : Int) (r : (api_Sum × Int)) (h : ref12_New p0 p1 p2 p3 p4 = r) : Contract Tryz.prog 58 [.int .i64 p0, .int .i64 p1, .int .i64 p2, .int .i64 p3, .int .i64 p4] [] (.tup [.agg (enc_api_Sum r.1), .int .i64 r.2]) [] := by
 refine contract_of_vcs tab_ok orders_ok Tryz.func58 Tryz.call58 (by kernel_rfl) 1 rfl rfl _ rfl ?_
 delta ref12_New at h
 refine eN (eN (eN ?_))
 refine eX (CK.plain _ _) (An (ContractT.wk (c_ref09_May' p0 p2 p4 _ rfl) (r3 trivial)) (An rfl ?_))
 refine An (fun g1 => ?_) (fun g1 => ?_)
 refine eX (CK.plain _ _) (An (ContractT.wk (c_ref11_MayK' p1 _ rfl) (r1 trivial)) (An rfl ?_))
 refine An (fun g2 => ?_) (fun g2 => ?_)
 refine eX (CK.plain _ _) (An (ContractT.wk (c_ref12_MayMax' p3 _ rfl) (r1 trivial)) (An rfl ?_))
 refine An (fun g3 => ?_) (fun g3 => ?_)
 replace h := cT (oR (oR g1 g2) g3) h
 refine eN ?_
 first | subst h | rw [← h]
 exact (r7 trivial)
 replace h := cF (oR (oR g1 g2) g3) h
 refine eN ?_
 first | subst h | rw [← h]
 exact (r7 trivial)
 replace h := cT (oL (oR g1 g2)) h
 refine eN ?_
 first | subst h | rw [← h]
 exact (r7 trivial)
 replace h := cT (oL (oL g1)) h
 refine eN ?_
 first | subst h | rw [← h]
 exact (r7 trivial)

theorem c_ref13_New' (p0 : Int) (p1 : Int) (p2 : Int) (p3 : Int) (p4 : Int) (r : (api_Smooth × Int)) (h : ref13_New p0 p1 p2 p3 p4 = r) : Contract Tryz.prog 59 [.int .i64 p0, .int .i64 p1, .int .i64 p2, .int .i64 p3, .int .i64 p4] [] (.tup [.agg (enc_api_Smooth r.1), .int .i64 r.2]) [] := by
 refine contract_of_vcs tab_ok orders_ok Tryz.func59 Tryz.call59 (by kernel_rfl) 1 rfl rfl _ rfl ?_
 delta ref13_New at h
 refine eN (eN (eN ?_))
 refine eX (CK.plain _ _) (An (ContractT.wk (c_ref13_MayAgg' p0 _ rfl) (r1 trivial)) (An rfl ?_))
 refine An (fun g1 => ?_) (fun g1 => ?_)
 refine eX (CK.plain _ _) (An (ContractT.wk (c_ref09_May' p1 p3 p4 _ rfl) (r3 trivial)) (An rfl ?_))
 refine An (fun g2 => ?_) (fun g2 => ?_)
 refine eX (CK.plain _ _) (An (ContractT.wk (c_ref11_MayK' p2 _ rfl) (r1 trivial)) (An rfl ?_))
 refine An (fun g3 => ?_) (fun g3 => ?_)
 replace h := cT (oR (oR g1 g2) g3) h
 refine eN ?_
 first | subst h | rw [← h]
 exact (r8 trivial)
 replace h := cF (oR (oR g1 g2) g3) h
 refine eN ?_
 first | subst h | rw [← h]
 exact (r8 trivial)
 replace h := cT (oL (oR g1 g2)) h
 refine eN ?_
 first | subst h | rw [← h]
 exact (r8 trivial)
 replace h := cT (oL (oL g1)) h
 refine eN ?_
 first | subst h | rw [← h]
 exact (r8 trivial)

theorem c_ref14_New' (p0 : Int) (p1 : Int) (p2 : Int) (p3 : Int) (r : (api_Spread × Int)) (h : ref14_New p0 p1 p2 p3 = r) : Contract Tryz.prog 60 [.int .i64 p0, .int .i64 p1, .int .i64 p2, .int .i64 p3] [] (.tup [.agg (enc_api_Spread r.1), .int .i64 r.2]) [] := by
 refine contract_of_vcs tab_ok orders_ok Tryz.func60 Tryz.call60 (by kernel_rfl) 1 rfl rfl _ rfl ?_
 delta ref14_New at h
 refine eN (eN (eN ?_))
 refine eX (CK.plain _ _) (An (ContractT.wk (c_ref09_May' p0 p2 p3 _ rfl) (r3 trivial)) (An rfl ?_))
 refine An (fun g1 => ?_) (fun g1 => ?_)
 refine eX (CK.plain _ _) (An (ContractT.wk (c_ref11_MayK' p1 _ rfl) (r1 trivial)) (An rfl ?_))
 refine An (fun g2 => ?_) (fun g2 => ?_)
 replace h := cT (oR g1 g2) h
 refine eN ?_
 first | subst h | rw [← h]
 exact (r7 trivial)
 replace h := cF (oR g1 g2) h
 refine eN ?_
 first | subst h | rw [← h]
 exact (r7 trivial)
 replace h := cT (oL g1) h
 refine eN ?_
 first | subst h | rw [← h]
 exact (r7 trivial)

theorem c_ref15_New (p0 : Int) (p1 : Int) (r : (api_Poly × Int)) (h : ref15_New p0 p1 = some r) : Contract Tryz.prog 61 [.int .i64 p0, .int .i64 p1] [] (.tup [.agg (enc_api_Poly r.1), .int .i64 r.2]) [] := by
 refine contract_of_vcs tab_ok orders_ok Tryz.func61 Tryz.call61 (by kernel_rfl) 1 rfl rfl _ rfl ?_
 delta ref15_New at h
 refine eN (eN (eN ?_))
 refine An (fun g1 => ?_) (fun g1 => ?_)
 refine An (fun g2 => ?_) (fun g2 => ?_)
 refine eX (CK.plain _ _) (An (ContractT.wk (c_ref06_Tick' p1 _ rfl) (r1 trivial)) (An rfl ?_))
 refine An (fun g3 => ?_) (fun g3 => ?_)
 replace h := cT (oR (oR g1 g2) g3) h
 refine eN ?_
 replace h := oJ h
 first | subst h | rw [← h]
 exact (r5 trivial)
 replace h := cF (oR (oR g1 g2) g3) h
 refine eN ?_
 obtain ⟨k3_5, h⟩ := ckS h
 refine An (oD k3_5) ?_
 replace h := oJ h
 first | subst h | rw [← h]
 exact (r3 (An ff (An lE (r1 trivial))))
 replace h := cT (oL (oR g1 g2)) h
 refine eN ?_
 replace h := oJ h
 first | subst h | rw [← h]
 exact (r5 trivial)
 replace h := cT (oL (oL g1)) h
 refine eN ?_
 replace h := oJ h
 first | subst h | rw [← h]
 exact (r5 trivial)

theorem c_ref16_New (p0 : Int) (p1 : Int) (r : (api_Halve × Int)) (h : ref16_New p0 p1 = some r) : Contract Tryz.prog 62 [.int .i64 p0, .int .i64 p1] [] (.tup [.agg [.int .i64 r.1.Now, .lst 1 false (List.map (eI .i64) r.1.Sums)], .int .i64 r.2]) [] := by
 refine contract_of_vcs tab_ok orders_ok Tryz.func62 Tryz.call62 (by kernel_rfl) 1 rfl rfl _ rfl ?_
 delta ref16_New at h
 refine eN (eN (eN ?_))
 refine An (fun g1 => ?_) (fun g1 => ?_)
 refine An (fun g2 => ?_) (fun g2 => ?_)
 refine eX (CK.plain _ _) (An (ContractT.wk (c_ref06_Tick' p1 _ rfl) (r1 trivial)) (An rfl ?_))
 refine An (fun g3 => ?_) (fun g3 => ?_)
 replace h := cT (oR (oR g1 g2) g3) h
 refine eN ?_
 replace h := oJ h
 first | subst h | rw [← h]
 exact (r3 trivial)
 replace h := cF (oR (oR g1 g2) g3) h
 refine eN ?_
 obtain ⟨k3_2, h⟩ := ckS h
 refine An (oD k3_2) ?_
 replace h := oJ h
 first | subst h | rw [← h]
 exact (r1 (An ff (An lE (r1 trivial))))
 replace h := cT (oL (oR g1 g2)) h
 refine eN ?_
 replace h := oJ h
 first | subst h | rw [← h]
 exact (r3 trivial)
 replace h := cT (oL (oL g1)) h
 refine eN ?_
 replace h := oJ h
 first | subst h | rw [← h]
 exact (r3 trivial)

theorem c_ref17_New' (p0 : Bool) (p1 : Int) (p2 : Int) (p3 : Int) (r : (api_Extreme × Int)) (h : ref17_New p0 p1 p2 p3 = r) : Contract Tryz.prog 63 [.sb p0, .int .i64 p1, .int .i64 p2, .int .i64 p3] [] (.tup [.agg (enc_api_Extreme r.1), .int .i64 r.2]) [] := by
 refine contract_of_vcs tab_ok orders_ok Tryz.func63 Tryz.call63 (by kernel_rfl) 1 rfl rfl _ rfl ?_
 delta ref17_New at h
 refine eN (eN ?_)
 refine eX (CK.plain _ _) (An (ContractT.wk (c_ref09_May' p1 p2 p3 _ rfl) (r3 trivial)) (An rfl ?_))
 refine An (fun g1 => ?_) (fun g1 => ?_)
 replace h := cT g1 h
 refine eN ?_
 first | subst h | rw [← h]
 exact (r6 trivial)
 replace h := cF g1 h
 refine eN ?_
 first | subst h | rw [← h]
 exact (r6 trivial)

theorem c_ref18_New' (p0 : Int) (p1 : Int) (r : (api_Chain × Int)) (h : ref18_New p0 p1 = r) : Contract Tryz.prog 144 [.int .i64 p0, .int .i64 p1] [] (.tup [.agg (enc_api_Chain r.1), .int .i64 r.2]) [] := by
 refine contract_of_vcs tab_ok orders_ok Tryz.func144 Tryz.call144 (by kernel_rfl) 1 rfl rfl _ rfl ?_
 delta ref18_New at h
 refine eN (eN (eN ?_))
 refine eX (CK.plain _ _) (An (ContractT.wk (c_ref06_Window' p0 _ rfl) (r1 trivial)) (An rfl ?_))
 refine An (fun g1 => ?_) (fun g1 => ?_)
 refine An (fun g2 => ?_) (fun g2 => ?_)
 refine An (fun g3 => ?_) (fun g3 => ?_)
 replace h := cT (oR (oR g1 g2) g3) h
 refine eN ?_
 first | subst h | rw [← h]
 exact (r6 trivial)
 replace h := cF (oR (oR g1 g2) g3) h
 refine eN ?_
 first | subst h | rw [← h]
 exact (r6 trivial)
 replace h := cT (oL (oR g1 g2)) h
 refine eN ?_
 first | subst h | rw [← h]
 exact (r6 trivial)
 replace h := cT (oL (oL g1)) h
 refine eN ?_
 first | subst h | rw [← h]
 exact (r6 trivial)

theorem c_ref19_New (p0 : Int) (p1 : Int) (p2 : Int) (r : (api_Sample × Int)) (h : ref19_New p0 p1 p2 = some r) : Contract Tryz.prog 64 [.int .i64 p0, .int .i64 p1, .int .i64 p2] [] (.tup [.agg [.lst 5 false (List.map enc_api_Chain r.1.Chains)], .int .i64 r.2]) [] := by
 refine contract_of_vcs tab_ok orders_ok Tryz.func64 Tryz.call64 (by kernel_rfl) 1 rfl rfl _ rfl ?_
 delta ref19_New at h
 refine eN (eN (eN ?_))
 refine An (fun g1 => ?_) (fun g1 => ?_)
 refine An (fun g2 => ?_) (fun g2 => ?_)
 replace h := cT (oR g1 g2) h
 refine eN ?_
 replace h := oJ h
 first | subst h | rw [← h]
 exact (r2 trivial)
 replace h := cF (oR g1 g2) h
 refine eN ?_
 replace h : ref19_New_l3 p1 p2 p0 ([] : List api_Chain) = some r := h
 delta ref19_New_l3 at h
 obtain ⟨n1, h⟩ := loopS h
 refine eX (Sum.inl ⟨(Int × (List api_Chain)) × Nat, fun q => [(.tmp 0, .av (.int .i64 q.1.1)), (.tmp 1, .av (.int .i64 p1)), (.tmp 2, .av (.int .i64 p2)), (.tmp 6, .av (.ptr 1 0)), (.tmp 8, .av (.ptr 513 0)), (.box 1, .box [.nilS]), (.box 513, .box [.own 768]), (.tok 768, .tok 123 5 (List.map enc_api_Chain q.1.2))], fun q => loopN (fun (s : (Int × (List api_Chain))) => ref19_New_l3s p1 p2 s.1 s.2) q.2 q.1 = some r, fun q => q.2⟩) (An (eX [(768, none)] (eX [] (eX ((p0, ([] : List api_Chain)), n1) (An h (r5 trivial))))) ?_)
 clear h
 refine fun q h => ?_
 obtain ⟨⟨v3_0, v3_b3x0_0⟩, n1⟩ := q
 obtain ⟨m1, x1, hm1, h, hl1, hr1⟩ := loopN_step h
 replace hm1 : n1 = m1 + 1 := hm1
 subst hm1
 replace h : ref19_New_l3s p1 p2 v3_0 v3_b3x0_0 = some x1 := h
 delta ref19_New_l3s at h
 refine eN ?_
 refine An (fun g3 => ?_) (fun g3 => ?_)
 replace h := cT g3 h
 refine eN ?_
 refine eX (CK.plain _ _) (An (ContractT.wk (c_ref18_New' p1 p2 _ rfl) (r2 trivial)) (An rfl ?_))
 refine eN ?_
 refine An (fun g4 => ?_) (fun g4 => ?_)
 replace h := cT g4 h
 refine eN ?_
 replace h := retS h hr1
 first | subst h | rw [← h]
 exact (r2 trivial)
 replace h := cF g4 h
 refine eN ?_
 obtain ⟨k9_4, h⟩ := ckS h
 refine An (kA (oD k9_4)) ?_
 refine eN ?_
 exact eX [(768, some 1541)] (eX [] (eX (((w64 (v3_0 - (1:Int))), (v3_b3x0_0 ++ [(ref18_New p1 p2).1])), m1) (An (hl1 ((w64 (v3_0 - (1:Int))), (v3_b3x0_0 ++ [(ref18_New p1 p2).1])) (oJ h).symm) (An (Nat.lt_succ_self m1) (r4 (An lE trivial))))))
 replace h := cF g3 h
 replace h := popS h hr1
 refine eN ?_
 replace h := oJ h
 first | subst h | rw [← h]
 exact (fr (r1 trivial))
 replace h := cT (oL g1) h
 refine eN ?_
 replace h := oJ h
 first | subst h | rw [← h]
 exact (r2 trivial)

theorem c_ref23_New' (p0 : Int) (p1 : Int) (p2 : Int) (p3 : Int) (r : (api_Quantile × Int)) (h : ref23_New p0 p1 p2 p3 = r) : Contract Tryz.prog 66 [.int .i64 p0, .int .i64 p1, .int .i64 p2, .int .i64 p3] [] (.tup [.agg (enc_api_Quantile r.1), .int .i64 r.2]) [] := by
 refine contract_of_vcs tab_ok orders_ok Tryz.func66 Tryz.call66 (by kernel_rfl) 1 rfl rfl _ rfl ?_
 delta ref23_New at h
 refine eN (eN (eN ?_))
 refine eX (CK.plain _ _) (An (ContractT.wk (c_ref09_May' p0 p2 p3 _ rfl) (r3 trivial)) (An rfl ?_))
 refine An (fun g1 => ?_) (fun g1 => ?_)
 refine eX (CK.plain _ _) (An (ContractT.wk (c_ref11_MayK' p1 _ rfl) (r1 trivial)) (An rfl ?_))
 refine An (fun g2 => ?_) (fun g2 => ?_)
 replace h := cT (oR g1 g2) h
 refine eN ?_
 first | subst h | rw [← h]
 exact (r6 trivial)
 replace h := cF (oR g1 g2) h
 refine eN ?_
 first | subst h | rw [← h]
 exact (r6 trivial)
 replace h := cT (oL g1) h
 refine eN ?_
 first | subst h | rw [← h]
 exact (r6 trivial)

theorem c_ref25_New (p0 : api_Config) (p1 : Int) (r : (api_Synopsis × Int)) (h : ref25_New p0 p1 = some r) : Contract Tryz.prog 25 [.agg (enc_api_Config p0), .int .i64 p1] [] (.tup [.agg (enc_api_Synopsis r.1), .int .i64 r.2]) [] := by
 refine contract_of_vcs tab_ok orders_ok Tryz.func25 Tryz.call25 (by kernel_rfl) 1 rfl rfl _ rfl ?_
 delta ref25_New at h
 refine eN (eN ?_)
 refine eX (CK.plain _ _) (An (ContractT.wk (c_ref24_Validate' p0 _ rfl) (r8 trivial)) (An rfl ?_))
 refine eN ?_
 refine An (fun g1 => ?_) (fun g1 => ?_)
 replace h := cT g1 h
 refine eN ?_
 replace h := oJ h
 first | subst h | rw [← h]
 exact (r48 (r8 (r2 trivial)))
 replace h := cF g1 h
 refine eN ?_
 refine eX (CK.plain _ _) (An (ContractT.wk (c_ref06_Tick' p1 _ rfl) (r1 trivial)) (An rfl ?_))
 refine An (fun g2 => ?_) (fun g2 => ?_)
 replace h := cT g2 h
 refine eN ?_
 replace h := oJ h
 first | subst h | rw [← h]
 exact (r48 (r8 (r2 trivial)))
 replace h := cF g2 h
 refine eN (eN (eN (eN ?_)))
 refine eX (some (⟨Int × Int × Int × (List api_Item) × Int × Int × Int × Int × (List api_Bucket) × Int × Int × Int × Int × Int × (List api_Bucket) × Int × Int × Int × Int × Int × Int × (List api_Mark) × Int × Int × Int × Int × Int × (List api_Mark) × Int × Int × Int × (List api_Wide) × Int × (List Int) × Bool × Int × Int × Int × (List api_Item) × (List api_Chain) × Int × Int × Int × (List api_Tuple) × Int × Int × Int × Int × (List api_Block), fun q => [(.tmp 4, .av (.ptr 2 0)), (.tmp 7, .av (.ptr 1027 0)), (.box 2, .box [.int .i64 (0:Int), .int .i64 (0:Int), .int .i64 (0:Int), .int .i64 (0:Int), .int .i64 (0:Int), .int .i64 (0:Int), .int .i64 (0:Int), .int .i64 (0:Int), .int .i64 (0:Int), .int .i64 (0:Int), .int .i64 (0:Int), .nilS, .int .i64 (0:Int), .int .i64 (0:Int), .int .i64 (0:Int), .int .i64 (0:Int), .nilS, .int .i64 (0:Int), .int .i64 (0:Int), .int .i64 (0:Int), .int .i64 (0:Int), .int .i64 (0:Int), .nilS, .int .i64 (0:Int), .int .i64 (0:Int), .int .i64 (0:Int), .int .i64 (0:Int), .int .i64 (0:Int), .int .i64 (0:Int), .nilS, .int .i64 (0:Int), .int .i64 (0:Int), .int .i64 (0:Int), .int .i64 (0:Int), .int .i64 (0:Int), .nilS, .int .i64 (0:Int), .int .i64 (0:Int), .int .i64 (0:Int), .nilS, .int .i64 (0:Int), .nilS, .bool false, .int .i64 (0:Int), .int .i64 (0:Int), .int .i64 (0:Int), .nilS, .nilS, .int .i64 (0:Int), .int .i64 (0:Int), .int .i64 (0:Int), .nilS, .int .i64 (0:Int), .int .i64 (0:Int), .int .i64 (0:Int), .int .i64 (0:Int), .nilS]), (.box 1027, .box (List.append (enc_api_Config p0) (.int .i64 q.1 :: (.int .i64 q.2.1 :: (.int .i64 q.2.2.1 :: (.lst 2 false (List.map enc_api_Item q.2.2.2.1) :: (.int .i64 q.2.2.2.2.1 :: (.int .i64 q.2.2.2.2.2.1 :: (.int .i64 q.2.2.2.2.2.2.1 :: (.int .i64 q.2.2.2.2.2.2.2.1 :: (.lst 2 false (List.map enc_api_Bucket q.2.2.2.2.2.2.2.2.1) :: (.int .i64 q.2.2.2.2.2.2.2.2.2.1 :: (.int .i64 q.2.2.2.2.2.2.2.2.2.2.1 :: (.int .i64 q.2.2.2.2.2.2.2.2.2.2.2.1 :: (.int .i64 q.2.2.2.2.2.2.2.2.2.2.2.2.1 :: (.int .i64 q.2.2.2.2.2.2.2.2.2.2.2.2.2.1 :: (.lst 2 false (List.map enc_api_Bucket q.2.2.2.2.2.2.2.2.2.2.2.2.2.2.1) :: (.int .i64 q.2.2.2.2.2.2.2.2.2.2.2.2.2.2.2.1 :: (.int .i64 q.2.2.2.2.2.2.2.2.2.2.2.2.2.2.2.2.1 :: (.int .i64 q.2.2.2.2.2.2.2.2.2.2.2.2.2.2.2.2.2.1 :: (.int .i64 q.2.2.2.2.2.2.2.2.2.2.2.2.2.2.2.2.2.2.1 :: (.int .i64 q.2.2.2.2.2.2.2.2.2.2.2.2.2.2.2.2.2.2.2.1 :: (.int .i64 q.2.2.2.2.2.2.2.2.2.2.2.2.2.2.2.2.2.2.2.2.1 :: (.lst 7 false (List.map enc_api_Mark q.2.2.2.2.2.2.2.2.2.2.2.2.2.2.2.2.2.2.2.2.2.1) :: (.int .i64 q.2.2.2.2.2.2.2.2.2.2.2.2.2.2.2.2.2.2.2.2.2.2.1 :: (.int .i64 q.2.2.2.2.2.2.2.2.2.2.2.2.2.2.2.2.2.2.2.2.2.2.2.1 :: (.int .i64 q.2.2.2.2.2.2.2.2.2.2.2.2.2.2.2.2.2.2.2.2.2.2.2.2.1 :: (.int .i64 q.2.2.2.2.2.2.2.2.2.2.2.2.2.2.2.2.2.2.2.2.2.2.2.2.2.1 :: (.int .i64 q.2.2.2.2.2.2.2.2.2.2.2.2.2.2.2.2.2.2.2.2.2.2.2.2.2.2.1 :: (.lst 7 false (List.map enc_api_Mark q.2.2.2.2.2.2.2.2.2.2.2.2.2.2.2.2.2.2.2.2.2.2.2.2.2.2.2.1) :: (.int .i64 q.2.2.2.2.2.2.2.2.2.2.2.2.2.2.2.2.2.2.2.2.2.2.2.2.2.2.2.2.1 :: (.int .i64 q.2.2.2.2.2.2.2.2.2.2.2.2.2.2.2.2.2.2.2.2.2.2.2.2.2.2.2.2.2.1 :: (.int .i64 q.2.2.2.2.2.2.2.2.2.2.2.2.2.2.2.2.2.2.2.2.2.2.2.2.2.2.2.2.2.2.1 :: (.lst 2 false (List.map enc_api_Wide q.2.2.2.2.2.2.2.2.2.2.2.2.2.2.2.2.2.2.2.2.2.2.2.2.2.2.2.2.2.2.2.1) :: (.int .i64 q.2.2.2.2.2.2.2.2.2.2.2.2.2.2.2.2.2.2.2.2.2.2.2.2.2.2.2.2.2.2.2.2.1 :: (.lst 1 false (List.map (eI .i64) q.2.2.2.2.2.2.2.2.2.2.2.2.2.2.2.2.2.2.2.2.2.2.2.2.2.2.2.2.2.2.2.2.2.1) :: (.sb q.2.2.2.2.2.2.2.2.2.2.2.2.2.2.2.2.2.2.2.2.2.2.2.2.2.2.2.2.2.2.2.2.2.2.1 :: (.int .i64 q.2.2.2.2.2.2.2.2.2.2.2.2.2.2.2.2.2.2.2.2.2.2.2.2.2.2.2.2.2.2.2.2.2.2.2.1 :: (.int .i64 q.2.2.2.2.2.2.2.2.2.2.2.2.2.2.2.2.2.2.2.2.2.2.2.2.2.2.2.2.2.2.2.2.2.2.2.2.1 :: (.int .i64 q.2.2.2.2.2.2.2.2.2.2.2.2.2.2.2.2.2.2.2.2.2.2.2.2.2.2.2.2.2.2.2.2.2.2.2.2.2.1 :: (.lst 2 false (List.map enc_api_Item q.2.2.2.2.2.2.2.2.2.2.2.2.2.2.2.2.2.2.2.2.2.2.2.2.2.2.2.2.2.2.2.2.2.2.2.2.2.2.1) :: (.lst 5 false (List.map enc_api_Chain q.2.2.2.2.2.2.2.2.2.2.2.2.2.2.2.2.2.2.2.2.2.2.2.2.2.2.2.2.2.2.2.2.2.2.2.2.2.2.2.1) :: (.int .i64 q.2.2.2.2.2.2.2.2.2.2.2.2.2.2.2.2.2.2.2.2.2.2.2.2.2.2.2.2.2.2.2.2.2.2.2.2.2.2.2.2.1 :: (.int .i64 q.2.2.2.2.2.2.2.2.2.2.2.2.2.2.2.2.2.2.2.2.2.2.2.2.2.2.2.2.2.2.2.2.2.2.2.2.2.2.2.2.2.1 :: (.int .i64 q.2.2.2.2.2.2.2.2.2.2.2.2.2.2.2.2.2.2.2.2.2.2.2.2.2.2.2.2.2.2.2.2.2.2.2.2.2.2.2.2.2.2.1 :: (.lst 3 false (List.map enc_api_Tuple q.2.2.2.2.2.2.2.2.2.2.2.2.2.2.2.2.2.2.2.2.2.2.2.2.2.2.2.2.2.2.2.2.2.2.2.2.2.2.2.2.2.2.2.1) :: (.int .i64 q.2.2.2.2.2.2.2.2.2.2.2.2.2.2.2.2.2.2.2.2.2.2.2.2.2.2.2.2.2.2.2.2.2.2.2.2.2.2.2.2.2.2.2.2.1 :: (.int .i64 q.2.2.2.2.2.2.2.2.2.2.2.2.2.2.2.2.2.2.2.2.2.2.2.2.2.2.2.2.2.2.2.2.2.2.2.2.2.2.2.2.2.2.2.2.2.1 :: (.int .i64 q.2.2.2.2.2.2.2.2.2.2.2.2.2.2.2.2.2.2.2.2.2.2.2.2.2.2.2.2.2.2.2.2.2.2.2.2.2.2.2.2.2.2.2.2.2.2.1 :: (.int .i64 q.2.2.2.2.2.2.2.2.2.2.2.2.2.2.2.2.2.2.2.2.2.2.2.2.2.2.2.2.2.2.2.2.2.2.2.2.2.2.2.2.2.2.2.2.2.2.2.1 :: (.lst 5 false (List.map enc_api_Block q.2.2.2.2.2.2.2.2.2.2.2.2.2.2.2.2.2.2.2.2.2.2.2.2.2.2.2.2.2.2.2.2.2.2.2.2.2.2.2.2.2.2.2.2.2.2.2.2) :: [])))))))))))))))))))))))))))))))))))))))))))))))))))], fun q => ref25_New_j4 p0 q.1 q.2.1 q.2.2.1 q.2.2.2.1 q.2.2.2.2.1 q.2.2.2.2.2.1 q.2.2.2.2.2.2.1 q.2.2.2.2.2.2.2.1 q.2.2.2.2.2.2.2.2.1 q.2.2.2.2.2.2.2.2.2.1 q.2.2.2.2.2.2.2.2.2.2.1 q.2.2.2.2.2.2.2.2.2.2.2.1 q.2.2.2.2.2.2.2.2.2.2.2.2.1 q.2.2.2.2.2.2.2.2.2.2.2.2.2.1 q.2.2.2.2.2.2.2.2.2.2.2.2.2.2.1 q.2.2.2.2.2.2.2.2.2.2.2.2.2.2.2.1 q.2.2.2.2.2.2.2.2.2.2.2.2.2.2.2.2.1 q.2.2.2.2.2.2.2.2.2.2.2.2.2.2.2.2.2.1 q.2.2.2.2.2.2.2.2.2.2.2.2.2.2.2.2.2.2.1 q.2.2.2.2.2.2.2.2.2.2.2.2.2.2.2.2.2.2.2.1 q.2.2.2.2.2.2.2.2.2.2.2.2.2.2.2.2.2.2.2.2.1 q.2.2.2.2.2.2.2.2.2.2.2.2.2.2.2.2.2.2.2.2.2.1 q.2.2.2.2.2.2.2.2.2.2.2.2.2.2.2.2.2.2.2.2.2.2.1 q.2.2.2.2.2.2.2.2.2.2.2.2.2.2.2.2.2.2.2.2.2.2.2.1 q.2.2.2.2.2.2.2.2.2.2.2.2.2.2.2.2.2.2.2.2.2.2.2.2.1 q.2.2.2.2.2.2.2.2.2.2.2.2.2.2.2.2.2.2.2.2.2.2.2.2.2.1 q.2.2.2.2.2.2.2.2.2.2.2.2.2.2.2.2.2.2.2.2.2.2.2.2.2.2.1 q.2.2.2.2.2.2.2.2.2.2.2.2.2.2.2.2.2.2.2.2.2.2.2.2.2.2.2.1 q.2.2.2.2.2.2.2.2.2.2.2.2.2.2.2.2.2.2.2.2.2.2.2.2.2.2.2.2.1 q.2.2.2.2.2.2.2.2.2.2.2.2.2.2.2.2.2.2.2.2.2.2.2.2.2.2.2.2.2.1 q.2.2.2.2.2.2.2.2.2.2.2.2.2.2.2.2.2.2.2.2.2.2.2.2.2.2.2.2.2.2.1 q.2.2.2.2.2.2.2.2.2.2.2.2.2.2.2.2.2.2.2.2.2.2.2.2.2.2.2.2.2.2.2.1 q.2.2.2.2.2.2.2.2.2.2.2.2.2.2.2.2.2.2.2.2.2.2.2.2.2.2.2.2.2.2.2.2.1 q.2.2.2.2.2.2.2.2.2.2.2.2.2.2.2.2.2.2.2.2.2.2.2.2.2.2.2.2.2.2.2.2.2.1 q.2.2.2.2.2.2.2.2.2.2.2.2.2.2.2.2.2.2.2.2.2.2.2.2.2.2.2.2.2.2.2.2.2.2.1 q.2.2.2.2.2.2.2.2.2.2.2.2.2.2.2.2.2.2.2.2.2.2.2.2.2.2.2.2.2.2.2.2.2.2.2.1 q.2.2.2.2.2.2.2.2.2.2.2.2.2.2.2.2.2.2.2.2.2.2.2.2.2.2.2.2.2.2.2.2.2.2.2.2.1 q.2.2.2.2.2.2.2.2.2.2.2.2.2.2.2.2.2.2.2.2.2.2.2.2.2.2.2.2.2.2.2.2.2.2.2.2.2.1 q.2.2.2.2.2.2.2.2.2.2.2.2.2.2.2.2.2.2.2.2.2.2.2.2.2.2.2.2.2.2.2.2.2.2.2.2.2.2.1 q.2.2.2.2.2.2.2.2.2.2.2.2.2.2.2.2.2.2.2.2.2.2.2.2.2.2.2.2.2.2.2.2.2.2.2.2.2.2.2.1 q.2.2.2.2.2.2.2.2.2.2.2.2.2.2.2.2.2.2.2.2.2.2.2.2.2.2.2.2.2.2.2.2.2.2.2.2.2.2.2.2.1 q.2.2.2.2.2.2.2.2.2.2.2.2.2.2.2.2.2.2.2.2.2.2.2.2.2.2.2.2.2.2.2.2.2.2.2.2.2.2.2.2.2.1 q.2.2.2.2.2.2.2.2.2.2.2.2.2.2.2.2.2.2.2.2.2.2.2.2.2.2.2.2.2.2.2.2.2.2.2.2.2.2.2.2.2.2.1 q.2.2.2.2.2.2.2.2.2.2.2.2.2.2.2.2.2.2.2.2.2.2.2.2.2.2.2.2.2.2.2.2.2.2.2.2.2.2.2.2.2.2.2.1 q.2.2.2.2.2.2.2.2.2.2.2.2.2.2.2.2.2.2.2.2.2.2.2.2.2.2.2.2.2.2.2.2.2.2.2.2.2.2.2.2.2.2.2.2.1 q.2.2.2.2.2.2.2.2.2.2.2.2.2.2.2.2.2.2.2.2.2.2.2.2.2.2.2.2.2.2.2.2.2.2.2.2.2.2.2.2.2.2.2.2.2.1 q.2.2.2.2.2.2.2.2.2.2.2.2.2.2.2.2.2.2.2.2.2.2.2.2.2.2.2.2.2.2.2.2.2.2.2.2.2.2.2.2.2.2.2.2.2.2.1 q.2.2.2.2.2.2.2.2.2.2.2.2.2.2.2.2.2.2.2.2.2.2.2.2.2.2.2.2.2.2.2.2.2.2.2.2.2.2.2.2.2.2.2.2.2.2.2.1 q.2.2.2.2.2.2.2.2.2.2.2.2.2.2.2.2.2.2.2.2.2.2.2.2.2.2.2.2.2.2.2.2.2.2.2.2.2.2.2.2.2.2.2.2.2.2.2.2 = some r, fun _ => 0⟩, 1000000)) (An ?_ ?_)
 refine An (fun g3 => ?_) (fun g3 => ?_)
 replace h := cT g3 h
 refine eN ?_
 refine eX (CK.plain _ _) (An (ContractT.wk (c_ref09_New' p0.W p0.Cap p1 _ rfl) (r3 trivial)) (An rfl ?_))
 exact eX [] (eX [] (eX ((ref09_New p0.W p0.Cap p1).1.W, (ref09_New p0.W p0.Cap p1).1.Cap, (ref09_New p0.W p0.Cap p1).1.Now, (ref09_New p0.W p0.Cap p1).1.Items, (0:Int), (0:Int), (0:Int), (0:Int), ([] : List api_Bucket), (0:Int), (0:Int), (0:Int), (0:Int), (0:Int), ([] : List api_Bucket), (0:Int), (0:Int), (0:Int), (0:Int), (0:Int), (0:Int), ([] : List api_Mark), (0:Int), (0:Int), (0:Int), (0:Int), (0:Int), ([] : List api_Mark), (0:Int), (0:Int), (0:Int), ([] : List api_Wide), (0:Int), ([] : List Int), false, (0:Int), (0:Int), (0:Int), ([] : List api_Item), ([] : List api_Chain), (0:Int), (0:Int), (0:Int), ([] : List api_Tuple), (0:Int), (0:Int), (0:Int), (0:Int), ([] : List api_Block)) (An h (r48 (r8 (r2 (fr (r32 (r12 (r1 trivial))))))))))
 replace h := cF g3 h
 refine eN (eN ?_)
 refine An (fun g4 => ?_) (fun g4 => ?_)
 replace h := cT g4 h
 refine eN ?_
 refine eX (CK.plain _ _) (An (ContractT.wk (c_ref11_New' p0.W p0.K p0.Cap p1 _ rfl) (r4 trivial)) (An rfl ?_))
 exact eX [] (eX [] (eX ((0:Int), (0:Int), (0:Int), ([] : List api_Item), (ref11_New p0.W p0.K p0.Cap p1).1.W, (ref11_New p0.W p0.K p0.Cap p1).1.K, (ref11_New p0.W p0.K p0.Cap p1).1.Cap, (ref11_New p0.W p0.K p0.Cap p1).1.Now, (ref11_New p0.W p0.K p0.Cap p1).1.Buckets, (0:Int), (0:Int), (0:Int), (0:Int), (0:Int), ([] : List api_Bucket), (0:Int), (0:Int), (0:Int), (0:Int), (0:Int), (0:Int), ([] : List api_Mark), (0:Int), (0:Int), (0:Int), (0:Int), (0:Int), ([] : List api_Mark), (0:Int), (0:Int), (0:Int), ([] : List api_Wide), (0:Int), ([] : List Int), false, (0:Int), (0:Int), (0:Int), ([] : List api_Item), ([] : List api_Chain), (0:Int), (0:Int), (0:Int), ([] : List api_Tuple), (0:Int), (0:Int), (0:Int), (0:Int), ([] : List api_Block)) (An h (r48 (r12 (r3 (fr (r32 (r8 trivial)))))))))
 replace h := cF g4 h
 refine eN (eN ?_)
 refine An (fun g5 => ?_) (fun g5 => ?_)
 replace h := cT g5 h
 refine eN ?_
 refine eX (CK.plain _ _) (An (ContractT.wk (c_ref12_New' p0.W p0.K p0.Cap p0.Max p1 _ rfl) (r5 trivial)) (An rfl ?_))
 exact eX [] (eX [] (eX ((0:Int), (0:Int), (0:Int), ([] : List api_Item), (0:Int), (0:Int), (0:Int), (0:Int), ([] : List api_Bucket), (ref12_New p0.W p0.K p0.Cap p0.Max p1).1.W, (ref12_New p0.W p0.K p0.Cap p0.Max p1).1.K, (ref12_New p0.W p0.K p0.Cap p0.Max p1).1.Cap, (ref12_New p0.W p0.K p0.Cap p0.Max p1).1.Max, (ref12_New p0.W p0.K p0.Cap p0.Max p1).1.Now, (ref12_New p0.W p0.K p0.Cap p0.Max p1).1.Buckets, (0:Int), (0:Int), (0:Int), (0:Int), (0:Int), (0:Int), ([] : List api_Mark), (0:Int), (0:Int), (0:Int), (0:Int), (0:Int), ([] : List api_Mark), (0:Int), (0:Int), (0:Int), ([] : List api_Wide), (0:Int), ([] : List Int), false, (0:Int), (0:Int), (0:Int), ([] : List api_Item), ([] : List api_Chain), (0:Int), (0:Int), (0:Int), ([] : List api_Tuple), (0:Int), (0:Int), (0:Int), (0:Int), ([] : List api_Block)) (An h (r64 (r5 (fr (r32 (r2 trivial))))))))
 replace h := cF g5 h
 refine eN (eN ?_)
 refine An (fun g6 => ?_) (fun g6 => ?_)
 replace h := cT g6 h
 refine eN ?_
 refine eX (CK.plain _ _) (An (ContractT.wk (c_ref13_New' p0.Agg p0.W p0.K p0.Cap p1 _ rfl) (r5 trivial)) (An rfl ?_))
 exact eX [] (eX [] (eX ((0:Int), (0:Int), (0:Int), ([] : List api_Item), (0:Int), (0:Int), (0:Int), (0:Int), ([] : List api_Bucket), (0:Int), (0:Int), (0:Int), (0:Int), (0:Int), ([] : List api_Bucket), (ref13_New p0.Agg p0.W p0.K p0.Cap p1).1.Agg, (ref13_New p0.Agg p0.W p0.K p0.Cap p1).1.W, (ref13_New p0.Agg p0.W p0.K p0.Cap p1).1.K, (ref13_New p0.Agg p0.W p0.K p0.Cap p1).1.Cap, (ref13_New p0.Agg p0.W p0.K p0.Cap p1).1.Now, (ref13_New p0.Agg p0.W p0.K p0.Cap p1).1.Seq, (ref13_New p0.Agg p0.W p0.K p0.Cap p1).1.Marks, (0:Int), (0:Int), (0:Int), (0:Int), (0:Int), ([] : List api_Mark), (0:Int), (0:Int), (0:Int), ([] : List api_Wide), (0:Int), ([] : List Int), false, (0:Int), (0:Int), (0:Int), ([] : List api_Item), ([] : List api_Chain), (0:Int), (0:Int), (0:Int), ([] : List api_Tuple), (0:Int), (0:Int), (0:Int), (0:Int), ([] : List api_Block)) (An h (r64 (r12 (fr (r24 (r3 trivial))))))))
 replace h := cF g6 h
 refine eN (eN ?_)
 refine An (fun g7 => ?_) (fun g7 => ?_)
 replace h := cT g7 h
 refine eN ?_
 refine eX (CK.plain _ _) (An (ContractT.wk (c_ref14_New' p0.W p0.K p0.Cap p1 _ rfl) (r4 trivial)) (An rfl ?_))
 exact eX [] (eX [] (eX ((0:Int), (0:Int), (0:Int), ([] : List api_Item), (0:Int), (0:Int), (0:Int), (0:Int), ([] : List api_Bucket), (0:Int), (0:Int), (0:Int), (0:Int), (0:Int), ([] : List api_Bucket), (0:Int), (0:Int), (0:Int), (0:Int), (0:Int), (0:Int), ([] : List api_Mark), (ref14_New p0.W p0.K p0.Cap p1).1.W, (ref14_New p0.W p0.K p0.Cap p1).1.K, (ref14_New p0.W p0.K p0.Cap p1).1.Cap, (ref14_New p0.W p0.K p0.Cap p1).1.Now, (ref14_New p0.W p0.K p0.Cap p1).1.Seq, (ref14_New p0.W p0.K p0.Cap p1).1.Marks, (0:Int), (0:Int), (0:Int), ([] : List api_Wide), (0:Int), ([] : List Int), false, (0:Int), (0:Int), (0:Int), ([] : List api_Item), ([] : List api_Chain), (0:Int), (0:Int), (0:Int), ([] : List api_Tuple), (0:Int), (0:Int), (0:Int), (0:Int), ([] : List api_Block)) (An h (r64 (r16 (r2 (fr (r16 (r5 trivial)))))))))
 replace h := cF g7 h
 refine eN (eN ?_)
 refine An (fun g8 => ?_) (fun g8 => ?_)
 replace h := cT g8 h
 refine eN ?_
 obtain ⟨y19_3, e19_3, h⟩ := bS h
 refine eX (CK.plain _ _) (An (ContractT.wk (c_ref15_New p0.P p1 y19_3 e19_3) (r2 trivial)) (An rfl ?_))
 exact eX [] (eX [] (eX ((0:Int), (0:Int), (0:Int), ([] : List api_Item), (0:Int), (0:Int), (0:Int), (0:Int), ([] : List api_Bucket), (0:Int), (0:Int), (0:Int), (0:Int), (0:Int), ([] : List api_Bucket), (0:Int), (0:Int), (0:Int), (0:Int), (0:Int), (0:Int), ([] : List api_Mark), (0:Int), (0:Int), (0:Int), (0:Int), (0:Int), ([] : List api_Mark), y19_3.1.P, y19_3.1.Land, y19_3.1.Now, y19_3.1.Moments, (0:Int), ([] : List Int), false, (0:Int), (0:Int), (0:Int), ([] : List api_Item), ([] : List api_Chain), (0:Int), (0:Int), (0:Int), ([] : List api_Tuple), (0:Int), (0:Int), (0:Int), (0:Int), ([] : List api_Block)) (An h (r64 (r16 (r6 (fr (r16 (r1 trivial)))))))))
 replace h := cF g8 h
 refine eN (eN ?_)
 refine An (fun g9 => ?_) (fun g9 => ?_)
 replace h := cT g9 h
 refine eN ?_
 obtain ⟨y21_3, e21_3, h⟩ := bS h
 refine eX (CK.plain _ _) (An (ContractT.wk (c_ref16_New p0.W p1 y21_3 e21_3) (r2 trivial)) (An rfl ?_))
 exact eX [] (eX [] (eX ((0:Int), (0:Int), (0:Int), ([] : List api_Item), (0:Int), (0:Int), (0:Int), (0:Int), ([] : List api_Bucket), (0:Int), (0:Int), (0:Int), (0:Int), (0:Int), ([] : List api_Bucket), (0:Int), (0:Int), (0:Int), (0:Int), (0:Int), (0:Int), ([] : List api_Mark), (0:Int), (0:Int), (0:Int), (0:Int), (0:Int), ([] : List api_Mark), (0:Int), (0:Int), (0:Int), ([] : List api_Wide), y21_3.1.Now, y21_3.1.Sums, false, (0:Int), (0:Int), (0:Int), ([] : List api_Item), ([] : List api_Chain), (0:Int), (0:Int), (0:Int), ([] : List api_Tuple), (0:Int), (0:Int), (0:Int), (0:Int), ([] : List api_Block)) (An h (r64 (r24 (fr (r12 (r3 trivial))))))))
 replace h := cF g9 h
 refine eN (eN ?_)
 refine An (fun g10 => ?_) (fun g10 => ?_)
 replace h := cT g10 h
 refine eN ?_
 refine eX (CK.plain _ _) (An (ContractT.wk (c_ref17_New' (p0.Max == (1:Int)) p0.W p0.Cap p1 _ rfl) (r4 trivial)) (An rfl ?_))
 exact eX [] (eX [] (eX ((0:Int), (0:Int), (0:Int), ([] : List api_Item), (0:Int), (0:Int), (0:Int), (0:Int), ([] : List api_Bucket), (0:Int), (0:Int), (0:Int), (0:Int), (0:Int), ([] : List api_Bucket), (0:Int), (0:Int), (0:Int), (0:Int), (0:Int), (0:Int), ([] : List api_Mark), (0:Int), (0:Int), (0:Int), (0:Int), (0:Int), ([] : List api_Mark), (0:Int), (0:Int), (0:Int), ([] : List api_Wide), (0:Int), ([] : List Int), (ref17_New (p0.Max == (1:Int)) p0.W p0.Cap p1).1.Max, (ref17_New (p0.Max == (1:Int)) p0.W p0.Cap p1).1.W, (ref17_New (p0.Max == (1:Int)) p0.W p0.Cap p1).1.Cap, (ref17_New (p0.Max == (1:Int)) p0.W p0.Cap p1).1.Now, (ref17_New (p0.Max == (1:Int)) p0.W p0.Cap p1).1.Items, ([] : List api_Chain), (0:Int), (0:Int), (0:Int), ([] : List api_Tuple), (0:Int), (0:Int), (0:Int), (0:Int), ([] : List api_Block)) (An h (r64 (r24 (r5 (fr (r8 (r2 trivial)))))))))
 replace h := cF g10 h
 refine eN (eN ?_)
 refine An (fun g11 => ?_) (fun g11 => ?_)
 replace h := cT g11 h
 refine eN ?_
 obtain ⟨y25_6, e25_6, h⟩ := bS h
 refine eX (CK.plain _ _) (An (ContractT.wk (c_ref19_New p0.Chains p0.W p0.Cap y25_6 e25_6) (r3 trivial)) (An rfl ?_))
 exact eX [] (eX [] (eX ((0:Int), (0:Int), (0:Int), ([] : List api_Item), (0:Int), (0:Int), (0:Int), (0:Int), ([] : List api_Bucket), (0:Int), (0:Int), (0:Int), (0:Int), (0:Int), ([] : List api_Bucket), (0:Int), (0:Int), (0:Int), (0:Int), (0:Int), (0:Int), ([] : List api_Mark), (0:Int), (0:Int), (0:Int), (0:Int), (0:Int), ([] : List api_Mark), (0:Int), (0:Int), (0:Int), ([] : List api_Wide), (0:Int), ([] : List Int), false, (0:Int), (0:Int), (0:Int), ([] : List api_Item), y25_6.1.Chains, (0:Int), (0:Int), (0:Int), ([] : List api_Tuple), (0:Int), (0:Int), (0:Int), (0:Int), ([] : List api_Block)) (An h (r64 (r24 (r6 (fr (r8 (r1 trivial)))))))))
 replace h := cF g11 h
 refine eN (eN ?_)
 refine An (fun g12 => ?_) (fun g12 => ?_)
 replace h := cT g12 h
 refine eN ?_
 refine eX (CK.plain _ _) (An (ContractT.wk (c_ref20_New' p0.K p0.Cap _ rfl) (r2 trivial)) (An rfl ?_))
 exact eX [] (eX [] (eX ((0:Int), (0:Int), (0:Int), ([] : List api_Item), (0:Int), (0:Int), (0:Int), (0:Int), ([] : List api_Bucket), (0:Int), (0:Int), (0:Int), (0:Int), (0:Int), ([] : List api_Bucket), (0:Int), (0:Int), (0:Int), (0:Int), (0:Int), (0:Int), ([] : List api_Mark), (0:Int), (0:Int), (0:Int), (0:Int), (0:Int), ([] : List api_Mark), (0:Int), (0:Int), (0:Int), ([] : List api_Wide), (0:Int), ([] : List Int), false, (0:Int), (0:Int), (0:Int), ([] : List api_Item), ([] : List api_Chain), (ref20_New p0.K p0.Cap).1.K, (ref20_New p0.K p0.Cap).1.Cap, (ref20_New p0.K p0.Cap).1.N, (ref20_New p0.K p0.Cap).1.Tuples, (0:Int), (0:Int), (0:Int), (0:Int), ([] : List api_Block)) (An h (r64 (r32 (r2 (fr (r5 trivial))))))))
 replace h := cF g12 h
 refine eN (eN ?_)
 refine An (fun g13 => ?_) (fun g13 => ?_)
 replace h := cT g13 h
 refine eN ?_
 refine eX (CK.plain _ _) (An (ContractT.wk (c_ref23_New' p0.W p0.K p0.Cap p1 _ rfl) (r4 trivial)) (An rfl ?_))
 exact eX [] (eX [] (eX ((0:Int), (0:Int), (0:Int), ([] : List api_Item), (0:Int), (0:Int), (0:Int), (0:Int), ([] : List api_Bucket), (0:Int), (0:Int), (0:Int), (0:Int), (0:Int), ([] : List api_Bucket), (0:Int), (0:Int), (0:Int), (0:Int), (0:Int), (0:Int), ([] : List api_Mark), (0:Int), (0:Int), (0:Int), (0:Int), (0:Int), ([] : List api_Mark), (0:Int), (0:Int), (0:Int), ([] : List api_Wide), (0:Int), ([] : List Int), false, (0:Int), (0:Int), (0:Int), ([] : List api_Item), ([] : List api_Chain), (0:Int), (0:Int), (0:Int), ([] : List api_Tuple), (ref23_New p0.W p0.K p0.Cap p1).1.W, (ref23_New p0.W p0.K p0.Cap p1).1.K, (ref23_New p0.W p0.K p0.Cap p1).1.Cap, (ref23_New p0.W p0.K p0.Cap p1).1.Now, (ref23_New p0.W p0.K p0.Cap p1).1.Blocks) (An h (r64 (r32 (r7 (fr trivial)))))))
 replace h := cF g13 h
 exact eX [] (eX [] (eX ((0:Int), (0:Int), (0:Int), ([] : List api_Item), (0:Int), (0:Int), (0:Int), (0:Int), ([] : List api_Bucket), (0:Int), (0:Int), (0:Int), (0:Int), (0:Int), ([] : List api_Bucket), (0:Int), (0:Int), (0:Int), (0:Int), (0:Int), (0:Int), ([] : List api_Mark), (0:Int), (0:Int), (0:Int), (0:Int), (0:Int), ([] : List api_Mark), (0:Int), (0:Int), (0:Int), ([] : List api_Wide), (0:Int), ([] : List Int), false, (0:Int), (0:Int), (0:Int), ([] : List api_Item), ([] : List api_Chain), (0:Int), (0:Int), (0:Int), ([] : List api_Tuple), (0:Int), (0:Int), (0:Int), (0:Int), ([] : List api_Block)) (An h (r64 (r32 (r8 trivial))))))
 clear h
 refine fun q h => ?_
 obtain ⟨j4_b6x2_8, j4_b6x2_9, j4_b6x2_10, j4_b6x2_11, j4_b6x2_12, j4_b6x2_13, j4_b6x2_14, j4_b6x2_15, j4_b6x2_16, j4_b6x2_17, j4_b6x2_18, j4_b6x2_19, j4_b6x2_20, j4_b6x2_21, j4_b6x2_22, j4_b6x2_23, j4_b6x2_24, j4_b6x2_25, j4_b6x2_26, j4_b6x2_27, j4_b6x2_28, j4_b6x2_29, j4_b6x2_30, j4_b6x2_31, j4_b6x2_32, j4_b6x2_33, j4_b6x2_34, j4_b6x2_35, j4_b6x2_36, j4_b6x2_37, j4_b6x2_38, j4_b6x2_39, j4_b6x2_40, j4_b6x2_41, j4_b6x2_42, j4_b6x2_43, j4_b6x2_44, j4_b6x2_45, j4_b6x2_46, j4_b6x2_47, j4_b6x2_48, j4_b6x2_49, j4_b6x2_50, j4_b6x2_51, j4_b6x2_52, j4_b6x2_53, j4_b6x2_54, j4_b6x2_55, j4_b6x2_56⟩ := q
 replace h : ref25_New_j4 p0 j4_b6x2_8 j4_b6x2_9 j4_b6x2_10 j4_b6x2_11 j4_b6x2_12 j4_b6x2_13 j4_b6x2_14 j4_b6x2_15 j4_b6x2_16 j4_b6x2_17 j4_b6x2_18 j4_b6x2_19 j4_b6x2_20 j4_b6x2_21 j4_b6x2_22 j4_b6x2_23 j4_b6x2_24 j4_b6x2_25 j4_b6x2_26 j4_b6x2_27 j4_b6x2_28 j4_b6x2_29 j4_b6x2_30 j4_b6x2_31 j4_b6x2_32 j4_b6x2_33 j4_b6x2_34 j4_b6x2_35 j4_b6x2_36 j4_b6x2_37 j4_b6x2_38 j4_b6x2_39 j4_b6x2_40 j4_b6x2_41 j4_b6x2_42 j4_b6x2_43 j4_b6x2_44 j4_b6x2_45 j4_b6x2_46 j4_b6x2_47 j4_b6x2_48 j4_b6x2_49 j4_b6x2_50 j4_b6x2_51 j4_b6x2_52 j4_b6x2_53 j4_b6x2_54 j4_b6x2_55 j4_b6x2_56 = some r := h
 delta ref25_New_j4 at h
 refine eN ?_
 replace h := oJ h
 first | subst h | rw [← h]
 exact (r8 (r3 (fr (r4 (fr (r5 (fr (r6 (fr (r5 (fr (r3 (fr (r1 (fr (r4 (fr (fr (r3 (fr (r4 (fr (r1 trivial)))))))))))))))))))))))

theorem c_synopsis_Records (p0 : api_Synopsis) (r : Int) (h : synopsis_Records p0 = some r) : Contract Tryz.prog 31 [.agg (enc_api_Synopsis p0)] [] (.int .i64 r) [] := by
 refine contract_of_vcs tab_ok orders_ok Tryz.func31 Tryz.call31 (by kernel_rfl) 1 rfl rfl _ rfl ?_
 delta synopsis_Records at h
 refine eN (eN ?_)
 obtain ⟨y1_1, e1_1, h⟩ := bS h
 refine eX (CK.plain _ _) (An (ContractT.wk (c_synopsis_Validate p0 y1_1 e1_1) (r8 (r3 (fr (r4 (fr (r5 (fr (r6 (fr (r5 (fr (r3 (fr (r1 (fr (r4 (fr (fr (r3 (fr (r4 (fr trivial))))))))))))))))))))))) (An rfl ?_))
 refine An (fun g1 => ?_) (fun g1 => ?_)
 replace h := cT g1 h
 refine eN ?_
 replace h := oJ h
 first | subst h | rw [← h]
 exact (r1 trivial)
 replace h := cF g1 h
 refine eN ?_
 refine eX [.int .i64 (p0.Recent.Items.length : Int)] (An (lenS enc_api_Item p0.Recent.Items) ?_)
 refine eX [.int .i64 (p0.Count.Buckets.length : Int)] (An (lenS enc_api_Bucket p0.Count.Buckets) ?_)
 refine eX [.int .i64 (p0.Sum.Buckets.length : Int)] (An (lenS enc_api_Bucket p0.Sum.Buckets) ?_)
 refine eX [.int .i64 (p0.Smooth.Marks.length : Int)] (An (lenS enc_api_Mark p0.Smooth.Marks) ?_)
 refine eX [.int .i64 (p0.Spread.Marks.length : Int)] (An (lenS enc_api_Mark p0.Spread.Marks) ?_)
 refine eX [.int .i64 (p0.Poly.Moments.length : Int)] (An (lenS enc_api_Wide p0.Poly.Moments) ?_)
 refine eX [.int .i64 (p0.Halve.Sums.length : Int)] (An (lenS (eI .i64) p0.Halve.Sums) ?_)
 refine eX [.int .i64 (p0.Extreme.Items.length : Int)] (An (lenS enc_api_Item p0.Extreme.Items) ?_)
 refine eX [.int .i64 (p0.Summary.Tuples.length : Int)] (An (lenS enc_api_Tuple p0.Summary.Tuples) ?_)
 refine eN ?_
 refine eX [.int .i64 (p0.Sample.Chains.length : Int)] (An (lenS enc_api_Chain p0.Sample.Chains) ?_)
 replace h : synopsis_Records_l3 p0 (w64 ((w64 ((w64 ((w64 ((w64 ((w64 ((w64 ((w64 ((p0.Recent.Items.length : Int) + (p0.Count.Buckets.length : Int))) + (p0.Sum.Buckets.length : Int))) + (p0.Smooth.Marks.length : Int))) + (p0.Spread.Marks.length : Int))) + (p0.Poly.Moments.length : Int))) + (p0.Halve.Sums.length : Int))) + (p0.Extreme.Items.length : Int))) + (p0.Summary.Tuples.length : Int))) (0:Int) = some r := h
 delta synopsis_Records_l3 at h
 obtain ⟨n1, h⟩ := loopS h
 refine eX (Sum.inl ⟨(Int × Int) × Nat, fun q => [(.tmp 1, .av (.ptr 1 0)), (.tmp 3, .av (.int .i64 q.1.1)), (.tmp 57, .av (.lst 5 false (List.map enc_api_Chain p0.Sample.Chains))), (.tmp 58, .av (.int .i64 (p0.Sample.Chains.length : Int))), (.tmp 59, .av (.int .i64 q.1.2)), (.box 1, .box (enc_api_Synopsis p0))], fun q => loopN (fun (s : (Int × Int)) => synopsis_Records_l3s p0 s.1 s.2) q.2 q.1 = some r, fun q => q.2⟩) (An (eX [] (eX [] (eX (((w64 ((w64 ((w64 ((w64 ((w64 ((w64 ((w64 ((w64 ((p0.Recent.Items.length : Int) + (p0.Count.Buckets.length : Int))) + (p0.Sum.Buckets.length : Int))) + (p0.Smooth.Marks.length : Int))) + (p0.Spread.Marks.length : Int))) + (p0.Poly.Moments.length : Int))) + (p0.Halve.Sums.length : Int))) + (p0.Extreme.Items.length : Int))) + (p0.Summary.Tuples.length : Int))), (0:Int)), n1) (An h (r2 (fr (r12 (r1 (fr (r4 (fr (r5 (fr (r6 (fr (r5 (fr (r3 (fr (r1 (fr (r4 (fr (fr (r3 (fr (r4 (fr trivial)))))))))))))))))))))))))))) ?_)
 clear h
 refine fun q h => ?_
 obtain ⟨⟨v3_3, v3_59⟩, n1⟩ := q
 obtain ⟨m1, x1, hm1, h, hl1, hr1⟩ := loopN_step h
 replace hm1 : n1 = m1 + 1 := hm1
 subst hm1
 replace h : synopsis_Records_l3s p0 v3_3 v3_59 = some x1 := h
 delta synopsis_Records_l3s at h
 refine eN ?_
 refine An (fun g2 => ?_) (fun g2 => ?_)
 replace h := cT g2 h
 refine eN ?_
 obtain ⟨x6_0, e6_0, h⟩ := bS h
 refine eX (enc_api_Chain x6_0) (An (idx_map enc_api_Chain e6_0) ?_)
 refine eN ?_
 refine eX [.int .i64 (x6_0.Links.length : Int)] (An (lenS enc_api_Link x6_0.Links) ?_)
 refine eN ?_
 exact eX [] (eX [] (eX (((w64 (v3_3 + (x6_0.Links.length : Int))), (w64 (v3_59 + (1:Int)))), m1) (An (hl1 ((w64 (v3_3 + (x6_0.Links.length : Int))), (w64 (v3_59 + (1:Int)))) (oJ h).symm) (An (Nat.lt_succ_self m1) (r2 (fr (r12 (r1 (fr (r4 (fr (r5 (fr (r6 (fr (r5 (fr (r3 (fr (r1 (fr (r4 (fr (fr (r3 (fr (r4 (fr trivial))))))))))))))))))))))))))))
 replace h := cF g2 h
 replace h := popS h hr1
 refine eN ?_
 refine eX [.int .i64 (p0.Quantile.Blocks.length : Int)] (An (lenS enc_api_Block p0.Quantile.Blocks) ?_)
 replace h : synopsis_Records_l7 p0 v3_3 (0:Int) = some r := h
 delta synopsis_Records_l7 at h
 obtain ⟨n1, h⟩ := loopS h
 refine eX (Sum.inl ⟨(Int × Int) × Nat, fun q => [(.tmp 3, .av (.int .i64 q.1.1)), (.tmp 71, .av (.lst 5 false (List.map enc_api_Block p0.Quantile.Blocks))), (.tmp 72, .av (.int .i64 (p0.Quantile.Blocks.length : Int))), (.tmp 73, .av (.int .i64 q.1.2))], fun q => loopN (fun (s : (Int × Int)) => synopsis_Records_l7s p0 s.1 s.2) q.2 q.1 = some r, fun q => q.2⟩) (An (eX [] (eX [] (eX ((v3_3, (0:Int)), n1) (An h (r2 (fr (r2 trivial))))))) ?_)
 clear h
 refine fun q h => ?_
 obtain ⟨⟨v7_3, v7_73⟩, n1⟩ := q
 obtain ⟨m1, x1, hm1, h, hl1, hr1⟩ := loopN_step h
 replace hm1 : n1 = m1 + 1 := hm1
 subst hm1
 replace h : synopsis_Records_l7s p0 v7_3 v7_73 = some x1 := h
 delta synopsis_Records_l7s at h
 refine eN ?_
 refine An (fun g3 => ?_) (fun g3 => ?_)
 replace h := cT g3 h
 refine eN ?_
 obtain ⟨x11_0, e11_0, h⟩ := bS h
 refine eX (enc_api_Block x11_0) (An (idx_map enc_api_Block e11_0) ?_)
 refine eN ?_
 refine eX [.int .i64 (x11_0.Ranks.Entries.length : Int)] (An (lenS enc_api_Entry x11_0.Ranks.Entries) ?_)
 refine eN ?_
 exact eX [] (eX [] (eX (((w64 (v7_3 + (x11_0.Ranks.Entries.length : Int))), (w64 (v7_73 + (1:Int)))), m1) (An (hl1 ((w64 (v7_3 + (x11_0.Ranks.Entries.length : Int))), (w64 (v7_73 + (1:Int)))) (oJ h).symm) (An (Nat.lt_succ_self m1) (r2 (fr (r2 trivial)))))))
 replace h := cF g3 h
 replace h := popS h hr1
 refine eN ?_
 replace h := oJ h
 first | subst h | rw [← h]
 exact (r1 trivial)

theorem c_law25_awake (r : Bool) (h : law25_awake = some r) : Contract Tryz.prog 27 [] [] (.sb r) [] := by
 refine contract_of_vcs tab_ok orders_ok Tryz.func27 Tryz.call27 (by kernel_rfl) 1 rfl rfl _ rfl ?_
 delta law25_awake at h
 refine eN (eN ?_)
 obtain ⟨y1_1, e1_1, h⟩ := bS h
 refine eX (CK.plain _ _) (An (ContractT.wk (c_synopsis_New (api_Config.mk (6:Int) (0:Int) (0:Int) (0:Int) (0:Int) (2:Int) (0:Int) (0:Int)) (0:Int) y1_1 e1_1) (r8 (r1 trivial))) (An rfl ?_))
 refine eN ?_
 obtain ⟨y2_4, e2_4, h⟩ := bS h
 refine eN ?_
 refine An (fun g1 => ?_) (fun g1 => ?_)
 refine eX (CK.plain _ _) (An (ContractT.wk (c_synopsis_Records y1_1.1 y2_4 (gdT g1 e2_4)) (r8 (r3 (fr (r4 (fr (r5 (fr (r6 (fr (r5 (fr (r3 (fr (r1 (fr (r4 (fr (fr (r3 (fr (r4 (fr trivial))))))))))))))))))))))) (An rfl ?_))
 replace h := oJ h
 first | subst h | rw [← h]
 exact (An (Eq.symm (aR g1 rfl)) trivial)
 replace h := oJ h
 first | subst h | rw [← h]
 exact (An (Eq.symm (aL g1)) trivial)

theorem c_law25_SynopsisNew (p0 : api_Config) (p1 : Int) (r : Bool) (h : law25_SynopsisNew p0 p1 = some r) : Contract Tryz.prog 5 [.agg (enc_api_Config p0), .int .i64 p1] [] (.sb r) [] := by
 refine contract_of_vcs tab_ok orders_ok Tryz.func5 Tryz.call5 (by kernel_rfl) 1 rfl rfl _ rfl ?_
 delta law25_SynopsisNew at h
 refine eN (eN ?_)
 obtain ⟨y1_2, e1_2, h⟩ := bS h
 refine eX (CK.plain _ _) (An (ContractT.wk (c_synopsis_New p0 p1 y1_2 e1_2) (r8 (r1 trivial))) (An rfl ?_))
 refine eN ?_
 obtain ⟨y2_2, e2_2, h⟩ := bS h
 refine eX (CK.plain _ _) (An (ContractT.wk (c_ref25_New p0 p1 y2_2 e2_2) (r8 (r1 trivial))) (An rfl ?_))
 refine eN ?_
 obtain ⟨y3_2, e3_2, h⟩ := bS h
 obtain ⟨y3_9, e3_9, h⟩ := bS h
 refine eN ?_
 refine eX (CK.plain _ _) (An (ContractT.wk (c_ref25_Same y1_2.1 y2_2.1 y3_2 e3_2) (r8 (r3 (fr (r4 (fr (r5 (fr (r6 (fr (r5 (fr (r3 (fr (r1 (fr (r4 (fr (fr (r3 (fr (r4 (fr (r8 (r3 (fr (r4 (fr (r5 (fr (r6 (fr (r5 (fr (r3 (fr (r1 (fr (r4 (fr (fr (r3 (fr (r4 (fr trivial))))))))))))))))))))))))))))))))))))))))))))) (An rfl ?_))
 refine An (fun g1 => ?_) (fun g1 => ?_)
 refine An (fun g2 => ?_) (fun g2 => ?_)
 refine eX (CK.plain _ _) (An (ContractT.wk (c_law25_awake y3_9 (gdT (aR g1 g2) e3_9)) trivial) (An rfl ?_))
 replace h := oJ h
 first | subst h | rw [← h]
 exact (An (Eq.symm (aR (aR g1 g2) rfl)) trivial)
 replace h := oJ h
 first | subst h | rw [← h]
 exact (An (Eq.symm (aL (aR g1 g2))) trivial)
 replace h := oJ h
 first | subst h | rw [← h]
 exact (An (Eq.symm (aL (aL g1))) trivial)

end Go.Proofs.YtinffhpeahlhoaaGreat
