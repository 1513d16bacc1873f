/- The contracts: each function of the program does what its function on plain data says. Made by program. -/
import Derived.Test.YtpclnmpmammlfaaTab
import Derived.Test.YtpclnmpmammlfaaWin
import Derived.Test.YtpclnmpmammlfaaWalk
import Derived.Test.YtpclnmpmammlfaaSrt
set_option linter.unusedVariables false
set_option linter.unusedSimpArgs false
set_option linter.unnecessarySimpa false
set_option maxHeartbeats 4000000
namespace Go.Proofs.Ytpclnmpmammlfaa
open Go.Vc Go.Dec Go.Win

theorem c_rank_Of (p0 : (List Int)) (r : (api_Ranks × Int)) (h : rank_Of p0 = some r) : Contract Try.prog 13 [.lst 1 false (List.map (eI .i64) p0)] [] (.tup [.agg [.int .i64 r.1.N, .lst 3 false (List.map enc_api_Entry r.1.Entries)], .int .i64 r.2]) [] := by
  refine contract_of_vcs tab_ok orders_ok Try.func13 Try.call13 (by kernel_rfl) 0 rfl rfl _ rfl ?_
  delta rank_Of at h
  refine Exists.intro none ?_
  refine Exists.intro none ?_
  refine Exists.intro [.int .i64 (p0.length : Int)] (And.intro (lenS (eI .i64) p0) ?_)
  refine And.intro (fun g1 => ?_) (fun g1 => ?_)
  · skip
    replace h := cT g1 h
    refine Exists.intro none ?_
    replace h := Option.some.inj h
    first | subst h | rw [← h]
    exact (And.intro rfl (And.intro rfl (And.intro rfl trivial)))
  · skip
    replace h := cF g1 h
    refine Exists.intro none ?_
    obtain ⟨k3_1, h⟩ := ckS h
    refine Exists.intro (CK.fresh _ _ _) (And.intro (clone_int false p0 (of_decide_eq_true k3_1)) (And.intro rfl ?_))
    refine Exists.intro none ?_
    obtain ⟨k4_1, h⟩ := ckS h
    refine Exists.intro (CK.sorts 513 2 p0) (And.intro sorts_int (And.intro (And.intro rfl (And.intro rfl (of_decide_eq_true k4_1))) ?_))
    refine Exists.intro none ?_
    refine Exists.intro [.int .i64 ((sortZ p0).length : Int)] (And.intro (lenS (eI .i64) (sortZ p0)) ?_)
    refine Exists.intro none ?_
    refine Exists.intro [.int .i64 ((sortZ p0).length : Int)] (And.intro (lenS (eI .i64) (sortZ p0)) ?_)
    replace h : rank_Of_l3 p0 (0:Int) ([] : List api_Entry) = some r := h
    delta rank_Of_l3 at h
    obtain ⟨n1, h⟩ := loopS h
    refine Exists.intro ⟨(Int × (List api_Entry)) × Nat, fun q => [(.tmp 2, .av (.ptr 0 0)), (.tmp 5, .av (.ptr 1027 0)), (.tmp 19, .av (.own 513)), (.tmp 20, .av (.int .i64 ((sortZ p0).length : Int))), (.tmp 21, .av (.int .i64 q.1.1)), (.box 0, .box [.int .i64 (0:Int), .nilS]), (.box 1027, .box [.int .i64 ((sortZ p0).length : Int), .own 1535]), (.tok 513, .tok 2 1 (List.map (eI .i64) (sortZ p0))), (.tok 1535, .tok 39 3 (List.map enc_api_Entry q.1.2))], fun q => loopN (fun (s : (Int × (List api_Entry))) => rank_Of_l3s p0 s.1 s.2) q.2 q.1 = some r, fun q => q.2⟩ (And.intro (Exists.intro [(1535, none)] (Exists.intro [] (Exists.intro (((0:Int), ([] : List api_Entry)), n1) (And.intro h (And.intro rfl (And.intro rfl (And.intro rfl (And.intro rfl (And.intro rfl (And.intro rfl (And.intro rfl trivial))))))))))) ?_)
    clear h
    refine fun q h => ?_
    obtain ⟨⟨v3_21, v3_b5x3_1⟩, n1⟩ := q
    obtain ⟨m1, x1, hm1, h, hl1, hr1⟩ := loopN_step h
    replace hm1 : n1 = m1 + 1 := hm1
    subst hm1
    replace h : rank_Of_l3s p0 v3_21 v3_b5x3_1 = some x1 := h
    delta rank_Of_l3s at h
    refine Exists.intro none ?_
    refine And.intro (fun g2 => ?_) (fun g2 => ?_)
    · skip
      replace h := cT g2 h
      refine Exists.intro none ?_
      obtain ⟨x8_1, e8_1, h⟩ := bS h
      obtain ⟨x8_2, e8_2, h⟩ := bS h
      refine And.intro (idx_lt (eI .i64) e8_1) ?_
      refine Exists.intro [.int .i64 x8_2] (And.intro (idx_elt (eI .i64) e8_2) ?_)
      refine Exists.intro none ?_
      obtain ⟨k9_9, h⟩ := ckS h
      refine And.intro (by have hh := (of_decide_eq_true k9_9); (try simp only [encZ, fixRows_length, List.length_map, List.length_append, List.length_take, List.length_drop, List.length_set, List.length_replicate, List.length_cons, List.length_nil] at hh); (try simp only [encZ, fixRows_length, List.length_map, List.length_append, List.length_take, List.length_drop, List.length_set, List.length_replicate, List.length_cons, List.length_nil]); (try simp only [w64, wu64] at hh); (try simp only [w64, wu64]); omega) ?_
      refine Exists.intro none ?_
      exact Exists.intro [(1535, some 2057)] (Exists.intro [] (Exists.intro (((w64 (v3_21 + (1:Int))), (v3_b5x3_1 ++ [(api_Entry.mk x8_2 (w64 (v3_21 + (1:Int))) (w64 (v3_21 + (1:Int))))])), m1) (And.intro (hl1 ((w64 (v3_21 + (1:Int))), (v3_b5x3_1 ++ [(api_Entry.mk x8_2 (w64 (v3_21 + (1:Int))) (w64 (v3_21 + (1:Int))))])) (Option.some.inj h).symm) (And.intro (Nat.lt_succ_self m1) (And.intro rfl (And.intro rfl (And.intro rfl (And.intro rfl (And.intro rfl (And.intro rfl (And.intro (by first | rfl | (simp only [encZ, List.map_append, List.map_cons, List.map_nil, List.map_take, List.map_drop, List.map_set, List.map_replicate]; done) | (simp only [encZ, List.map_append, List.map_cons, List.map_nil, List.map_take, List.map_drop, List.map_set, List.map_replicate]; rfl) | (simp only [encZ, List.map_append, List.map_cons, List.map_nil, List.map_take, List.map_drop, List.map_set, List.map_replicate, eL, enc_api_Ranks, enc_api_Recent, enc_api_Answer]; done) | (simp only [encZ, List.map_append, List.map_cons, List.map_nil, List.map_take, List.map_drop, List.map_set, List.map_replicate, eL, enc_api_Ranks, enc_api_Recent, enc_api_Answer]; rfl)) trivial)))))))))))
    · skip
      replace h := cF g2 h
      replace h := popS h hr1
      refine Exists.intro none ?_
      replace h := Option.some.inj h
      first | subst h | rw [← h]
      exact (And.intro rfl (And.intro ff (And.intro rfl (And.intro rfl trivial))))

theorem c_law21_awake (r : Bool) (h : law21_awake = some r) : Contract Try.prog 12 [] [] (.sb r) [] := by
  refine contract_of_vcs tab_ok orders_ok Try.func12 Try.call12 (by kernel_rfl) 0 rfl rfl _ rfl ?_
  delta law21_awake at h
  refine Exists.intro none ?_
  refine Exists.intro none ?_
  obtain ⟨y1_1, e1_1, h⟩ := bS h
  refine Exists.intro (CK.plain _ _) (And.intro (Contract.wk (c_rank_Of [(3:Int), (1:Int)] y1_1 e1_1) (And.intro ff (And.intro (by first | rfl | (simp only [encZ, List.map_append, List.map_cons, List.map_nil, List.map_take, List.map_drop, List.map_set, List.map_replicate]; done) | (simp only [encZ, List.map_append, List.map_cons, List.map_nil, List.map_take, List.map_drop, List.map_set, List.map_replicate]; rfl) | (simp only [encZ, List.map_append, List.map_cons, List.map_nil, List.map_take, List.map_drop, List.map_set, List.map_replicate, eL, enc_api_Ranks, enc_api_Recent, enc_api_Answer]; done) | (simp only [encZ, List.map_append, List.map_cons, List.map_nil, List.map_take, List.map_drop, List.map_set, List.map_replicate, eL, enc_api_Ranks, enc_api_Recent, enc_api_Answer]; rfl)) trivial))) (And.intro rfl ?_))
  refine Exists.intro none ?_
  obtain ⟨x2_16, e2_16, h⟩ := bS h
  refine Exists.intro none ?_
  refine And.intro (fun g1 => ?_) (fun g1 => ?_)
  · skip
    refine And.intro (fun g2 => ?_) (fun g2 => ?_)
    · skip
      refine Exists.intro [.int .i64 (y1_1.1.Entries.length : Int)] (And.intro (lenS enc_api_Entry y1_1.1.Entries) ?_)
      refine And.intro (fun g3 => ?_) (fun g3 => ?_)
      · skip
        refine Exists.intro [.int .i64 x2_16.V, .int .i64 x2_16.Min, .int .i64 x2_16.Max] (And.intro (idx_map enc_api_Entry (gdT (aR (aR g1 g2) g3) e2_16)) ?_)
        replace h := Option.some.inj h
        first | subst h | rw [← h]
        exact (And.intro (Eq.symm (aR (aR (aR g1 g2) g3) rfl)) trivial)
      · skip
        replace h := Option.some.inj h
        first | subst h | rw [← h]
        exact (And.intro (Eq.symm (aL (aR (aR g1 g2) g3))) trivial)
    · skip
      replace h := Option.some.inj h
      first | subst h | rw [← h]
      exact (And.intro (Eq.symm (aL (aL (aR g1 g2)))) trivial)
  · skip
    replace h := Option.some.inj h
    first | subst h | rw [← h]
    exact (And.intro (Eq.symm (aL (aL (aL g1)))) trivial)

theorem c_ref21_Of (p0 : (List Int)) (r : (api_Ranks × Int)) (h : ref21_Of p0 = some r) : Contract Try.prog 14 [.lst 1 false (List.map (eI .i64) p0)] [] (.tup [.agg [.int .i64 r.1.N, .lst 3 false (List.map enc_api_Entry r.1.Entries)], .int .i64 r.2]) [] := by
  refine contract_of_vcs tab_ok orders_ok Try.func14 Try.call14 (by kernel_rfl) 0 rfl rfl _ rfl ?_
  delta ref21_Of at h
  refine Exists.intro none ?_
  refine Exists.intro none ?_
  refine Exists.intro [.int .i64 (p0.length : Int)] (And.intro (lenS (eI .i64) p0) ?_)
  refine And.intro (fun g1 => ?_) (fun g1 => ?_)
  · skip
    replace h := cT g1 h
    refine Exists.intro none ?_
    replace h := Option.some.inj h
    first | subst h | rw [← h]
    exact (And.intro rfl (And.intro rfl (And.intro rfl trivial)))
  · skip
    replace h := cF g1 h
    refine Exists.intro none ?_
    refine Exists.intro [.int .i64 (p0.length : Int)] (And.intro (lenS (eI .i64) p0) ?_)
    refine Exists.intro none ?_
    refine Exists.intro [.int .i64 (p0.length : Int)] (And.intro (lenS (eI .i64) p0) ?_)
    replace h : ref21_Of_l3 p0 (0:Int) ([] : List api_Entry) = some r := h
    delta ref21_Of_l3 at h
    obtain ⟨n1, h⟩ := loopS h
    refine Exists.intro ⟨(Int × (List api_Entry)) × Nat, fun q => [(.tmp 2, .av (.ptr 0 0)), (.tmp 4, .av (.ptr 515 0)), (.tmp 16, .av (.lst 1 false (List.map (eI .i64) p0))), (.tmp 17, .av (.int .i64 (p0.length : Int))), (.tmp 18, .av (.int .i64 q.1.1)), (.box 0, .box [.int .i64 (0:Int), .nilS]), (.box 515, .box [.int .i64 (p0.length : Int), .own 1023]), (.tok 1023, .tok 39 3 (List.map enc_api_Entry q.1.2))], fun q => loopN (fun (s : (Int × (List api_Entry))) => ref21_Of_l3s p0 s.1 s.2) q.2 q.1 = some r, fun q => q.2⟩ (And.intro (Exists.intro [(1023, none)] (Exists.intro [] (Exists.intro (((0:Int), ([] : List api_Entry)), n1) (And.intro h (And.intro rfl (And.intro ff (And.intro rfl (And.intro rfl (And.intro rfl (And.intro rfl (And.intro rfl (And.intro rfl trivial)))))))))))) ?_)
    clear h
    refine fun q h => ?_
    obtain ⟨⟨v3_18, v3_b3x3_1⟩, n1⟩ := q
    obtain ⟨m1, x1, hm1, h, hl1, hr1⟩ := loopN_step h
    replace hm1 : n1 = m1 + 1 := hm1
    subst hm1
    replace h : ref21_Of_l3s p0 v3_18 v3_b3x3_1 = some x1 := h
    delta ref21_Of_l3s at h
    refine Exists.intro none ?_
    refine And.intro (fun g2 => ?_) (fun g2 => ?_)
    · skip
      replace h := cT g2 h
      refine Exists.intro none ?_
      obtain ⟨x6_0, e6_0, h⟩ := bS h
      refine Exists.intro [.int .i64 x6_0] (And.intro (idx_map (eI .i64) e6_0) ?_)
      refine Exists.intro none ?_
      refine Exists.intro [.int .i64 (v3_b3x3_1.length : Int)] (And.intro (lenS enc_api_Entry v3_b3x3_1) ?_)
      refine Exists.intro none ?_
      obtain ⟨k8_5, h⟩ := ckS h
      refine And.intro (by have hh := (of_decide_eq_true k8_5); (try simp only [encZ, fixRows_length, List.length_map, List.length_append, List.length_take, List.length_drop, List.length_set, List.length_replicate, List.length_cons, List.length_nil] at hh); (try simp only [encZ, fixRows_length, List.length_map, List.length_append, List.length_take, List.length_drop, List.length_set, List.length_replicate, List.length_cons, List.length_nil]); (try simp only [w64, wu64] at hh); (try simp only [w64, wu64]); omega) ?_
      replace h : ref21_Of_l7 x6_0 v3_18 (v3_b3x3_1.length : Int) (v3_b3x3_1 ++ [(api_Entry.mk x6_0 (0:Int) (0:Int))]) = some x1 := h
      delta ref21_Of_l7 at h
      obtain ⟨n2, h⟩ := loopS h
      refine Exists.intro ⟨(Int × (List api_Entry)) × Nat, fun q => [(.tmp 2, .av (.ptr 0 0)), (.tmp 4, .av (.ptr 515 0)), (.tmp 6, .av (.int .i64 x6_0)), (.tmp 7, .av (.int .i64 q.1.1)), (.tmp 16, .av (.lst 1 false (List.map (eI .i64) p0))), (.tmp 17, .av (.int .i64 (p0.length : Int))), (.tmp 18, .av (.int .i64 v3_18)), (.box 0, .box [.int .i64 (0:Int), .nilS]), (.box 515, .box [.int .i64 (p0.length : Int), .own 1797]), (.tok 1797, .tok 39 3 (List.map enc_api_Entry q.1.2))], fun q => loopN (fun (s : (Int × (List api_Entry))) => ref21_Of_l7s x6_0 v3_18 s.1 s.2) q.2 q.1 = some x1, fun q => q.2⟩ (And.intro (Exists.intro [] (Exists.intro [] (Exists.intro (((v3_b3x3_1.length : Int), (v3_b3x3_1 ++ [(api_Entry.mk x6_0 (0:Int) (0:Int))])), n2) (And.intro h (And.intro rfl (And.intro rfl (And.intro rfl (And.intro ff (And.intro rfl (And.intro rfl (And.intro rfl (And.intro rfl (And.intro rfl (And.intro (by first | rfl | (simp only [encZ, List.map_append, List.map_cons, List.map_nil, List.map_take, List.map_drop, List.map_set, List.map_replicate]; done) | (simp only [encZ, List.map_append, List.map_cons, List.map_nil, List.map_take, List.map_drop, List.map_set, List.map_replicate]; rfl) | (simp only [encZ, List.map_append, List.map_cons, List.map_nil, List.map_take, List.map_drop, List.map_set, List.map_replicate, eL, enc_api_Ranks, enc_api_Recent, enc_api_Answer]; done) | (simp only [encZ, List.map_append, List.map_cons, List.map_nil, List.map_take, List.map_drop, List.map_set, List.map_replicate, eL, enc_api_Ranks, enc_api_Recent, enc_api_Answer]; rfl)) trivial)))))))))))))) ?_)
      clear h
      refine fun q h => ?_
      obtain ⟨⟨v7_7, v7_b3x3_1⟩, n2⟩ := q
      obtain ⟨m2, x2, hm2, h, hl2, hr2⟩ := loopN_step h
      replace hm2 : n2 = m2 + 1 := hm2
      subst hm2
      replace h : ref21_Of_l7s x6_0 v3_18 v7_7 v7_b3x3_1 = some x2 := h
      delta ref21_Of_l7s at h
      refine Exists.intro none ?_
      obtain ⟨x9_7, e9_7, h⟩ := bS h
      obtain ⟨x9_9, e9_9, h⟩ := bS h
      refine Exists.intro (some (⟨Unit, fun _ => [(.tmp 2, .av (.ptr 0 0)), (.tmp 4, .av (.ptr 515 0)), (.tmp 6, .av (.int .i64 x6_0)), (.tmp 7, .av (.int .i64 v7_7)), (.tmp 16, .av (.lst 1 false (List.map (eI .i64) p0))), (.tmp 17, .av (.int .i64 (p0.length : Int))), (.tmp 18, .av (.int .i64 v3_18)), (.tmp 44, .av (.sb ((decide (v7_7 > (0:Int))) && (decide (x9_9.V > x6_0))))), (.box 0, .box [.int .i64 (0:Int), .nilS]), (.box 515, .box [.int .i64 (p0.length : Int), .own 1797]), (.tok 1797, .tok 39 3 (List.map enc_api_Entry v7_b3x3_1))], fun _ => True, fun _ => 0⟩, 1000000)) (And.intro ?_ (fun _ _ => ?_))
      · skip
        refine And.intro (fun g3 => ?_) (fun g3 => ?_)
        · skip
          refine And.intro (idx_lt enc_api_Entry (gdT g3 e9_7)) ?_
          refine Exists.intro [.int .i64 x9_9.V, .int .i64 x9_9.Min, .int .i64 x9_9.Max] (And.intro (idx_elt enc_api_Entry (gdT g3 e9_9)) ?_)
          exact Exists.intro [] (Exists.intro [] (Exists.intro () (And.intro trivial (And.intro rfl (And.intro rfl (And.intro rfl (And.intro ff (And.intro rfl (And.intro rfl (And.intro rfl (And.intro (Eq.symm (aR g3 rfl)) (And.intro rfl (And.intro rfl (And.intro rfl trivial))))))))))))))
        · skip
          exact Exists.intro [] (Exists.intro [] (Exists.intro () (And.intro trivial (And.intro rfl (And.intro rfl (And.intro rfl (And.intro ff (And.intro rfl (And.intro rfl (And.intro rfl (And.intro (Eq.symm (aL g3)) (And.intro rfl (And.intro rfl (And.intro rfl trivial))))))))))))))
      · skip
        refine And.intro (fun g4 => ?_) (fun g4 => ?_)
        · skip
          replace h := cT g4 h
          refine Exists.intro none ?_
          obtain ⟨x10_11, e10_11, h⟩ := bS h
          obtain ⟨x10_12, e10_12, h⟩ := bS h
          obtain ⟨x10_16, e10_16, h⟩ := bS h
          obtain ⟨x10_17, e10_17, h⟩ := bS h
          obtain ⟨x10_18, e10_18, h⟩ := bS h
          obtain ⟨x10_19, e10_19, h⟩ := bS h
          obtain ⟨x10_20, e10_20, h⟩ := bS h
          obtain ⟨x10_21, e10_21, h⟩ := bS h
          refine And.intro (idx_lt enc_api_Entry e10_11) ?_
          refine Exists.intro [.int .i64 x10_12.V, .int .i64 x10_12.Min, .int .i64 x10_12.Max] (And.intro (idx_elt enc_api_Entry e10_12) ?_)
          refine And.intro (idx_lt enc_api_Entry e10_16) ?_
          refine Exists.intro [.int .i64 x10_17.V, .int .i64 x10_17.Min, .int .i64 x10_17.Max] (And.intro (idx_elt enc_api_Entry e10_17) ?_)
          refine And.intro (idx_lt enc_api_Entry e10_18) ?_
          refine Exists.intro [.int .i64 x10_19.V, .int .i64 x10_19.Min, .int .i64 x10_19.Max] (And.intro (idx_elt enc_api_Entry e10_19) ?_)
          refine And.intro (by have hh := idx_lt enc_api_Entry e10_20; (try simp only [encZ, fixRows_length, List.length_map, List.length_append, List.length_take, List.length_drop, List.length_set, List.length_replicate, List.length_cons, List.length_nil] at hh); (try simp only [encZ, fixRows_length, List.length_map, List.length_append, List.length_take, List.length_drop, List.length_set, List.length_replicate, List.length_cons, List.length_nil]); exact hh) ?_
          refine Exists.intro [.int .i64 x10_21.V, .int .i64 x10_21.Min, .int .i64 x10_21.Max] (And.intro (by have hh := idx_elt enc_api_Entry e10_21; simp only [encZ, List.map_append, List.map_cons, List.map_nil, List.map_take, List.map_drop, List.map_set, List.map_replicate] at hh; exact hh) ?_)
          refine Exists.intro none ?_
          exact Exists.intro [] (Exists.intro [] (Exists.intro (((w64 (v7_7 - (1:Int))), ((v7_b3x3_1.set (v7_7).toNat x10_12).set ((w64 (v7_7 - (1:Int)))).toNat x10_17)), m2) (And.intro (hl2 ((w64 (v7_7 - (1:Int))), ((v7_b3x3_1.set (v7_7).toNat x10_12).set ((w64 (v7_7 - (1:Int)))).toNat x10_17)) (Option.some.inj h).symm) (And.intro (Nat.lt_succ_self m2) (And.intro rfl (And.intro rfl (And.intro rfl (And.intro ff (And.intro rfl (And.intro rfl (And.intro rfl (And.intro rfl (And.intro rfl (And.intro (by first | rfl | (simp only [encZ, List.map_append, List.map_cons, List.map_nil, List.map_take, List.map_drop, List.map_set, List.map_replicate]; done) | (simp only [encZ, List.map_append, List.map_cons, List.map_nil, List.map_take, List.map_drop, List.map_set, List.map_replicate]; rfl) | (simp only [encZ, List.map_append, List.map_cons, List.map_nil, List.map_take, List.map_drop, List.map_set, List.map_replicate, eL, enc_api_Ranks, enc_api_Recent, enc_api_Answer]; done) | (simp only [encZ, List.map_append, List.map_cons, List.map_nil, List.map_take, List.map_drop, List.map_set, List.map_replicate, eL, enc_api_Ranks, enc_api_Recent, enc_api_Answer]; rfl)) trivial))))))))))))))
        · skip
          replace h := cF g4 h
          replace h := popS h hr2
          refine Exists.intro none ?_
          exact Exists.intro [(1023, some 1797)] (Exists.intro [] (Exists.intro (((w64 (v3_18 + (1:Int))), v7_b3x3_1), m1) (And.intro (hl1 ((w64 (v3_18 + (1:Int))), v7_b3x3_1) (Option.some.inj h).symm) (And.intro (Nat.lt_succ_self m1) (And.intro rfl (And.intro ff (And.intro rfl (And.intro rfl (And.intro rfl (And.intro rfl (And.intro rfl (And.intro rfl trivial))))))))))))
    · skip
      replace h := cF g2 h
      replace h := popS h hr1
      refine Exists.intro none ?_
      refine Exists.intro [.int .i64 (v3_b3x3_1.length : Int)] (And.intro (lenS enc_api_Entry v3_b3x3_1) ?_)
      replace h : ref21_Of_l11 p0 v3_b3x3_1 (0:Int) v3_b3x3_1 = some r := h
      delta ref21_Of_l11 at h
      obtain ⟨n1, h⟩ := loopS h
      refine Exists.intro ⟨(Int × (List api_Entry)) × Nat, fun q => [(.tmp 2, .av (.ptr 0 0)), (.tmp 4, .av (.ptr 515 0)), (.tmp 70, .av (.int .i64 (v3_b3x3_1.length : Int))), (.tmp 71, .av (.int .i64 q.1.1)), (.box 0, .box [.int .i64 (0:Int), .nilS]), (.box 515, .box [.int .i64 (p0.length : Int), .own 1023]), (.tok 1023, .tok 39 3 (List.map enc_api_Entry q.1.2))], fun q => loopN (fun (s : (Int × (List api_Entry))) => ref21_Of_l11s p0 v3_b3x3_1 s.1 s.2) q.2 q.1 = some r, fun q => q.2⟩ (And.intro (Exists.intro [] (Exists.intro [] (Exists.intro (((0:Int), v3_b3x3_1), n1) (And.intro h (And.intro rfl (And.intro rfl (And.intro rfl (And.intro rfl (And.intro rfl (And.intro rfl trivial)))))))))) ?_)
      clear h
      refine fun q h => ?_
      obtain ⟨⟨v11_71, v11_b3x3_1⟩, n1⟩ := q
      obtain ⟨m1, x1, hm1, h, hl1, hr1⟩ := loopN_step h
      replace hm1 : n1 = m1 + 1 := hm1
      subst hm1
      replace h : ref21_Of_l11s p0 v3_b3x3_1 v11_71 v11_b3x3_1 = some x1 := h
      delta ref21_Of_l11s at h
      refine Exists.intro none ?_
      refine And.intro (fun g5 => ?_) (fun g5 => ?_)
      · skip
        replace h := cT g5 h
        refine Exists.intro none ?_
        refine Exists.intro none ?_
        obtain ⟨x16_10, e16_10, h⟩ := bS h
        obtain ⟨x16_12, e16_12, h⟩ := bS h
        obtain ⟨x16_13, e16_13, h⟩ := bS h
        obtain ⟨x16_15, e16_15, h⟩ := bS h
        refine And.intro (idx_lt enc_api_Entry e16_10) ?_
        refine Exists.intro [.int .i64 x16_12.V, .int .i64 x16_12.Min, .int .i64 x16_12.Max] (And.intro (idx_elt enc_api_Entry e16_12) ?_)
        refine And.intro (by have hh := idx_lt enc_api_Entry e16_13; (try simp only [encZ, fixRows_length, List.length_map, List.length_append, List.length_take, List.length_drop, List.length_set, List.length_replicate, List.length_cons, List.length_nil] at hh); (try simp only [encZ, fixRows_length, List.length_map, List.length_append, List.length_take, List.length_drop, List.length_set, List.length_replicate, List.length_cons, List.length_nil]); exact hh) ?_
        refine Exists.intro [.int .i64 x16_15.V, .int .i64 x16_15.Min, .int .i64 x16_15.Max] (And.intro (by have hh := idx_elt enc_api_Entry e16_15; simp only [encZ, List.map_append, List.map_cons, List.map_nil, List.map_take, List.map_drop, List.map_set, List.map_replicate] at hh; exact hh) ?_)
        refine Exists.intro none ?_
        exact Exists.intro [] (Exists.intro [] (Exists.intro (((w64 (v11_71 + (1:Int))), ((v11_b3x3_1.set (v11_71).toNat (api_Entry.mk x16_12.V (w64 (v11_71 + (1:Int))) x16_12.Max)).set (v11_71).toNat (api_Entry.mk x16_15.V x16_15.Min (w64 (v11_71 + (1:Int)))))), m1) (And.intro (hl1 ((w64 (v11_71 + (1:Int))), ((v11_b3x3_1.set (v11_71).toNat (api_Entry.mk x16_12.V (w64 (v11_71 + (1:Int))) x16_12.Max)).set (v11_71).toNat (api_Entry.mk x16_15.V x16_15.Min (w64 (v11_71 + (1:Int)))))) (Option.some.inj h).symm) (And.intro (Nat.lt_succ_self m1) (And.intro rfl (And.intro rfl (And.intro rfl (And.intro rfl (And.intro rfl (And.intro (by first | rfl | (simp only [encZ, List.map_append, List.map_cons, List.map_nil, List.map_take, List.map_drop, List.map_set, List.map_replicate]; done) | (simp only [encZ, List.map_append, List.map_cons, List.map_nil, List.map_take, List.map_drop, List.map_set, List.map_replicate]; rfl) | (simp only [encZ, List.map_append, List.map_cons, List.map_nil, List.map_take, List.map_drop, List.map_set, List.map_replicate, eL, enc_api_Ranks, enc_api_Recent, enc_api_Answer]; done) | (simp only [encZ, List.map_append, List.map_cons, List.map_nil, List.map_take, List.map_drop, List.map_set, List.map_replicate, eL, enc_api_Ranks, enc_api_Recent, enc_api_Answer]; rfl)) trivial))))))))))
      · skip
        replace h := cF g5 h
        replace h := popS h hr1
        refine Exists.intro none ?_
        replace h := Option.some.inj h
        first | subst h | rw [← h]
        exact (And.intro rfl (And.intro ff (And.intro rfl (And.intro rfl trivial))))

theorem c_ref21_Same (p0 : api_Ranks) (p1 : api_Ranks) (r : Bool) (h : ref21_Same p0 p1 = some r) : Contract Try.prog 15 [.agg [.int .i64 p0.N, .lst 3 false (List.map enc_api_Entry p0.Entries)], .agg [.int .i64 p1.N, .lst 3 false (List.map enc_api_Entry p1.Entries)]] [] (.sb r) [] := by
  refine contract_of_vcs tab_ok orders_ok Try.func15 Try.call15 (by kernel_rfl) 0 rfl rfl _ rfl ?_
  delta ref21_Same at h
  refine Exists.intro none ?_
  refine Exists.intro none ?_
  refine Exists.intro none ?_
  refine And.intro (fun g1 => ?_) (fun g1 => ?_)
  · skip
    refine Exists.intro [.int .i64 (p0.Entries.length : Int)] (And.intro (lenS enc_api_Entry p0.Entries) ?_)
    refine Exists.intro [.int .i64 (p1.Entries.length : Int)] (And.intro (lenS enc_api_Entry p1.Entries) ?_)
    refine And.intro (fun g2 => ?_) (fun g2 => ?_)
    · skip
      replace h := cT (oR g1 g2) h
      refine Exists.intro none ?_
      replace h := Option.some.inj h
      first | subst h | rw [← h]
      exact (And.intro rfl trivial)
    · skip
      replace h := cF (oR g1 g2) h
      refine Exists.intro none ?_
      refine Exists.intro [.int .i64 (p0.Entries.length : Int)] (And.intro (lenS enc_api_Entry p0.Entries) ?_)
      replace h : ref21_Same_l3 p0 p1 (0:Int) = some r := h
      delta ref21_Same_l3 at h
      obtain ⟨n1, h⟩ := loopS h
      refine Exists.intro ⟨Int × Nat, fun q => [(.tmp 2, .av (.ptr 0 0)), (.tmp 3, .av (.ptr 1 0)), (.tmp 22, .av (.int .i64 (p0.Entries.length : Int))), (.tmp 23, .av (.int .i64 q.1)), (.box 0, .box [.int .i64 p0.N, .lst 3 false (List.map enc_api_Entry p0.Entries)]), (.box 1, .box [.int .i64 p1.N, .lst 3 false (List.map enc_api_Entry p1.Entries)])], fun q => loopN (fun (s : Int) => ref21_Same_l3s p0 p1 s) q.2 q.1 = some r, fun q => q.2⟩ (And.intro (Exists.intro [] (Exists.intro [] (Exists.intro ((0:Int), n1) (And.intro h (And.intro rfl (And.intro rfl (And.intro rfl (And.intro rfl (And.intro ff (And.intro rfl (And.intro rfl (And.intro ff (And.intro rfl trivial))))))))))))) ?_)
      clear h
      refine fun q h => ?_
      obtain ⟨v3_23, n1⟩ := q
      obtain ⟨m1, x1, hm1, h, hl1, hr1⟩ := loopN_step h
      replace hm1 : n1 = m1 + 1 := hm1
      subst hm1
      replace h : ref21_Same_l3s p0 p1 v3_23 = some x1 := h
      delta ref21_Same_l3s at h
      refine Exists.intro none ?_
      refine And.intro (fun g3 => ?_) (fun g3 => ?_)
      · skip
        replace h := cT g3 h
        refine Exists.intro none ?_
        refine Exists.intro none ?_
        obtain ⟨x6_3, e6_3, h⟩ := bS h
        obtain ⟨x6_8, e6_8, h⟩ := bS h
        refine Exists.intro [.int .i64 x6_3.V, .int .i64 x6_3.Min, .int .i64 x6_3.Max] (And.intro (idx_map enc_api_Entry e6_3) ?_)
        refine Exists.intro [.int .i64 x6_8.V, .int .i64 x6_8.Min, .int .i64 x6_8.Max] (And.intro (idx_map enc_api_Entry e6_8) ?_)
        refine And.intro (fun g4 => ?_) (fun g4 => ?_)
        · skip
          replace h := cT g4 h
          refine Exists.intro none ?_
          replace h := retS h hr1
          first | subst h | rw [← h]
          exact (And.intro rfl trivial)
        · skip
          replace h := cF g4 h
          refine Exists.intro none ?_
          exact Exists.intro [] (Exists.intro [] (Exists.intro ((w64 (v3_23 + (1:Int))), m1) (And.intro (hl1 (w64 (v3_23 + (1:Int))) (Option.some.inj h).symm) (And.intro (Nat.lt_succ_self m1) (And.intro rfl (And.intro rfl (And.intro rfl (And.intro rfl (And.intro ff (And.intro rfl (And.intro rfl (And.intro ff (And.intro rfl trivial)))))))))))))
      · skip
        replace h := cF g3 h
        replace h := popS h hr1
        refine Exists.intro none ?_
        replace h := Option.some.inj h
        first | subst h | rw [← h]
        exact (And.intro rfl trivial)
  · skip
    replace h := cT (oL g1) h
    refine Exists.intro none ?_
    replace h := Option.some.inj h
    first | subst h | rw [← h]
    exact (And.intro rfl trivial)

theorem c_rank_Validate (p0 : api_Ranks) (r : Int) (h : rank_Validate p0 = some r) : Contract Try.prog 16 [.agg [.int .i64 p0.N, .lst 3 false (List.map enc_api_Entry p0.Entries)]] [] (.int .i64 r) [] := by
  refine contract_of_vcs tab_ok orders_ok Try.func16 Try.call16 (by kernel_rfl) 0 rfl rfl _ rfl ?_
  delta rank_Validate at h
  refine Exists.intro none ?_
  refine Exists.intro none ?_
  refine Exists.intro [.int .i64 (p0.Entries.length : Int)] (And.intro (lenS enc_api_Entry p0.Entries) ?_)
  refine Exists.intro none ?_
  refine Exists.intro none ?_
  refine And.intro (fun g1 => ?_) (fun g1 => ?_)
  · skip
    refine And.intro (fun g2 => ?_) (fun g2 => ?_)
    · skip
      refine And.intro (fun g3 => ?_) (fun g3 => ?_)
      · skip
        replace h := cT (oR (oR g1 g2) g3) h
        refine Exists.intro none ?_
        replace h := Option.some.inj h
        first | subst h | rw [← h]
        exact (And.intro rfl trivial)
      · skip
        replace h := cF (oR (oR g1 g2) g3) h
        refine Exists.intro none ?_
        refine Exists.intro [.int .i64 (p0.Entries.length : Int)] (And.intro (lenS enc_api_Entry p0.Entries) ?_)
        replace h : rank_Validate_l3 p0 (0:Int) = some r := h
        delta rank_Validate_l3 at h
        obtain ⟨n1, h⟩ := loopS h
        refine Exists.intro ⟨Int × Nat, fun q => [(.tmp 1, .av (.ptr 0 0)), (.tmp 3, .av (.int .i64 (p0.Entries.length : Int))), (.tmp 27, .av (.lst 3 false (List.map enc_api_Entry p0.Entries))), (.tmp 28, .av (.int .i64 (p0.Entries.length : Int))), (.tmp 29, .av (.int .i64 q.1)), (.box 0, .box [.int .i64 p0.N, .lst 3 false (List.map enc_api_Entry p0.Entries)])], fun q => loopN (fun (s : Int) => rank_Validate_l3s p0 s) q.2 q.1 = some r, fun q => q.2⟩ (And.intro (Exists.intro [] (Exists.intro [] (Exists.intro ((0:Int), n1) (And.intro h (And.intro rfl (And.intro rfl (And.intro ff (And.intro rfl (And.intro rfl (And.intro rfl (And.intro rfl (And.intro ff (And.intro rfl trivial))))))))))))) ?_)
        clear h
        refine fun q h => ?_
        obtain ⟨v3_29, n1⟩ := q
        obtain ⟨m1, x1, hm1, h, hl1, hr1⟩ := loopN_step h
        replace hm1 : n1 = m1 + 1 := hm1
        subst hm1
        replace h : rank_Validate_l3s p0 v3_29 = some x1 := h
        delta rank_Validate_l3s at h
        refine Exists.intro none ?_
        refine And.intro (fun g4 => ?_) (fun g4 => ?_)
        · skip
          replace h := cT g4 h
          refine Exists.intro none ?_
          refine Exists.intro none ?_
          obtain ⟨x6_1, e6_1, h⟩ := bS h
          refine Exists.intro [.int .i64 x6_1.V, .int .i64 x6_1.Min, .int .i64 x6_1.Max] (And.intro (idx_map enc_api_Entry e6_1) ?_)
          refine Exists.intro none ?_
          refine Exists.intro none ?_
          refine And.intro (fun g5 => ?_) (fun g5 => ?_)
          · skip
            refine And.intro (fun g6 => ?_) (fun g6 => ?_)
            · skip
              refine And.intro (fun g7 => ?_) (fun g7 => ?_)
              · skip
                replace h := cT (oR (oR g5 g6) g7) h
                refine Exists.intro none ?_
                replace h := retS h hr1
                first | subst h | rw [← h]
                exact (And.intro rfl trivial)
              · skip
                replace h := cF (oR (oR g5 g6) g7) h
                refine Exists.intro none ?_
                refine Exists.intro none ?_
                refine And.intro (fun g8 => ?_) (fun g8 => ?_)
                · skip
                  replace h := cT g8 h
                  refine Exists.intro none ?_
                  obtain ⟨x10_4, e10_4, h⟩ := bS h
                  refine Exists.intro [.int .i64 x10_4.V, .int .i64 x10_4.Min, .int .i64 x10_4.Max] (And.intro (idx_map enc_api_Entry e10_4) ?_)
                  refine Exists.intro none ?_
                  refine Exists.intro none ?_
                  refine And.intro (fun g9 => ?_) (fun g9 => ?_)
                  · skip
                    refine And.intro (fun g10 => ?_) (fun g10 => ?_)
                    · skip
                      refine And.intro (fun g11 => ?_) (fun g11 => ?_)
                      · skip
                        replace h := cT (oR (oR g9 g10) g11) h
                        refine Exists.intro none ?_
                        replace h := retS h hr1
                        first | subst h | rw [← h]
                        exact (And.intro rfl trivial)
                      · skip
                        replace h := cF (oR (oR g9 g10) g11) h
                        refine Exists.intro none ?_
                        exact Exists.intro [] (Exists.intro [] (Exists.intro ((w64 (v3_29 + (1:Int))), m1) (And.intro (hl1 (w64 (v3_29 + (1:Int))) (Option.some.inj h).symm) (And.intro (Nat.lt_succ_self m1) (And.intro rfl (And.intro rfl (And.intro ff (And.intro rfl (And.intro rfl (And.intro rfl (And.intro rfl (And.intro ff (And.intro rfl trivial)))))))))))))
                    · skip
                      replace h := cT (oL (oR g9 g10)) h
                      refine Exists.intro none ?_
                      replace h := retS h hr1
                      first | subst h | rw [← h]
                      exact (And.intro rfl trivial)
                  · skip
                    replace h := cT (oL (oL g9)) h
                    refine Exists.intro none ?_
                    replace h := retS h hr1
                    first | subst h | rw [← h]
                    exact (And.intro rfl trivial)
                · skip
                  replace h := cF g8 h
                  refine Exists.intro none ?_
                  exact Exists.intro [] (Exists.intro [] (Exists.intro ((w64 (v3_29 + (1:Int))), m1) (And.intro (hl1 (w64 (v3_29 + (1:Int))) (Option.some.inj h).symm) (And.intro (Nat.lt_succ_self m1) (And.intro rfl (And.intro rfl (And.intro ff (And.intro rfl (And.intro rfl (And.intro rfl (And.intro rfl (And.intro ff (And.intro rfl trivial)))))))))))))
            · skip
              replace h := cT (oL (oR g5 g6)) h
              refine Exists.intro none ?_
              replace h := retS h hr1
              first | subst h | rw [← h]
              exact (And.intro rfl trivial)
          · skip
            replace h := cT (oL (oL g5)) h
            refine Exists.intro none ?_
            replace h := retS h hr1
            first | subst h | rw [← h]
            exact (And.intro rfl trivial)
        · skip
          replace h := cF g4 h
          replace h := popS h hr1
          refine Exists.intro none ?_
          obtain ⟨x14_5, e14_5, h⟩ := bS h
          obtain ⟨x14_14, e14_14, h⟩ := bS h
          refine Exists.intro (some (⟨Unit, fun _ => [(.tmp 100, .av (.sb ((decide ((p0.Entries.length : Int) > (0:Int))) && ((x14_5.Max != (1:Int)) || (x14_14.Min != p0.N)))))], fun _ => True, fun _ => 0⟩, 1000000)) (And.intro ?_ (fun _ _ => ?_))
          · skip
            refine And.intro (fun g12 => ?_) (fun g12 => ?_)
            · skip
              refine Exists.intro [.int .i64 x14_5.V, .int .i64 x14_5.Min, .int .i64 x14_5.Max] (And.intro (idx_map enc_api_Entry (gdT g12 e14_5)) ?_)
              refine And.intro (fun g13 => ?_) (fun g13 => ?_)
              · skip
                refine Exists.intro [.int .i64 x14_14.V, .int .i64 x14_14.Min, .int .i64 x14_14.Max] (And.intro (idx_map enc_api_Entry (gdT (aR g12 (nE g13)) e14_14)) ?_)
                exact Exists.intro [] (Exists.intro [] (Exists.intro () (And.intro trivial (And.intro rfl (And.intro (Eq.symm (aR g12 (oR g13 rfl))) trivial)))))
              · skip
                exact Exists.intro [] (Exists.intro [] (Exists.intro () (And.intro trivial (And.intro rfl (And.intro (Eq.symm (aR g12 (oL g13))) trivial)))))
            · skip
              exact Exists.intro [] (Exists.intro [] (Exists.intro () (And.intro trivial (And.intro rfl (And.intro (Eq.symm (aL g12)) trivial)))))
          · skip
            refine And.intro (fun g14 => ?_) (fun g14 => ?_)
            · skip
              replace h := cT g14 h
              refine Exists.intro none ?_
              replace h := Option.some.inj h
              first | subst h | rw [← h]
              exact (And.intro rfl trivial)
            · skip
              replace h := cF g14 h
              refine Exists.intro none ?_
              replace h := Option.some.inj h
              first | subst h | rw [← h]
              exact (And.intro rfl trivial)
    · skip
      replace h := cT (oL (oR g1 g2)) h
      refine Exists.intro none ?_
      replace h := Option.some.inj h
      first | subst h | rw [← h]
      exact (And.intro rfl trivial)
  · skip
    replace h := cT (oL (oL g1)) h
    refine Exists.intro none ?_
    replace h := Option.some.inj h
    first | subst h | rw [← h]
    exact (And.intro rfl trivial)

theorem c_rank_Gap (p0 : api_Ranks) (r : Int) (h : rank_Gap p0 = some r) : Contract Try.prog 17 [.agg [.int .i64 p0.N, .lst 3 false (List.map enc_api_Entry p0.Entries)]] [] (.int .i64 r) [] := by
  refine contract_of_vcs tab_ok orders_ok Try.func17 Try.call17 (by kernel_rfl) 0 rfl rfl _ rfl ?_
  delta rank_Gap at h
  refine Exists.intro none ?_
  refine Exists.intro none ?_
  obtain ⟨y1_1, e1_1, h⟩ := bS h
  refine Exists.intro none ?_
  refine Exists.intro (CK.plain _ _) (And.intro (Contract.wk (c_rank_Validate p0 y1_1 e1_1) (And.intro rfl (And.intro ff (And.intro rfl trivial)))) (And.intro rfl ?_))
  refine And.intro (fun g1 => ?_) (fun g1 => ?_)
  · skip
    refine Exists.intro [.int .i64 (p0.Entries.length : Int)] (And.intro (lenS enc_api_Entry p0.Entries) ?_)
    refine And.intro (fun g2 => ?_) (fun g2 => ?_)
    · skip
      replace h := cT (oR g1 g2) h
      refine Exists.intro none ?_
      replace h := Option.some.inj h
      first | subst h | rw [← h]
      exact (And.intro rfl trivial)
    · skip
      replace h := cF (oR g1 g2) h
      refine Exists.intro none ?_
      refine Exists.intro none ?_
      replace h : rank_Gap_l3 p0 (1:Int) (1:Int) = some r := h
      delta rank_Gap_l3 at h
      obtain ⟨n1, h⟩ := loopS h
      refine Exists.intro ⟨(Int × Int) × Nat, fun q => [(.tmp 1, .av (.ptr 0 0)), (.tmp 3, .av (.int .i64 q.1.1)), (.tmp 4, .av (.int .i64 q.1.2)), (.box 0, .box [.int .i64 p0.N, .lst 3 false (List.map enc_api_Entry p0.Entries)])], fun q => loopN (fun (s : (Int × Int)) => rank_Gap_l3s p0 s.1 s.2) q.2 q.1 = some r, fun q => q.2⟩ (And.intro (Exists.intro [] (Exists.intro [] (Exists.intro (((1:Int), (1:Int)), n1) (And.intro h (And.intro rfl (And.intro rfl (And.intro rfl (And.intro rfl (And.intro ff (And.intro rfl trivial)))))))))) ?_)
      clear h
      refine fun q h => ?_
      obtain ⟨⟨v3_3, v3_4⟩, n1⟩ := q
      obtain ⟨m1, x1, hm1, h, hl1, hr1⟩ := loopN_step h
      replace hm1 : n1 = m1 + 1 := hm1
      subst hm1
      replace h : rank_Gap_l3s p0 v3_3 v3_4 = some x1 := h
      delta rank_Gap_l3s at h
      refine Exists.intro none ?_
      refine Exists.intro [.int .i64 (p0.Entries.length : Int)] (And.intro (lenS enc_api_Entry p0.Entries) ?_)
      refine And.intro (fun g3 => ?_) (fun g3 => ?_)
      · skip
        replace h := cT g3 h
        refine Exists.intro none ?_
        obtain ⟨x7_4, e7_4, h⟩ := bS h
        obtain ⟨x7_11, e7_11, h⟩ := bS h
        refine Exists.intro [.int .i64 x7_4.V, .int .i64 x7_4.Min, .int .i64 x7_4.Max] (And.intro (idx_map enc_api_Entry e7_4) ?_)
        refine Exists.intro [.int .i64 x7_11.V, .int .i64 x7_11.Min, .int .i64 x7_11.Max] (And.intro (idx_map enc_api_Entry e7_11) ?_)
        refine Exists.intro none ?_
        exact Exists.intro [] (Exists.intro [] (Exists.intro (((imax v3_3 (w64 (x7_4.Max - x7_11.Min))), (w64 (v3_4 + (1:Int)))), m1) (And.intro (hl1 ((imax v3_3 (w64 (x7_4.Max - x7_11.Min))), (w64 (v3_4 + (1:Int)))) (Option.some.inj h).symm) (And.intro (Nat.lt_succ_self m1) (And.intro rfl (And.intro rfl (And.intro rfl (And.intro rfl (And.intro ff (And.intro rfl trivial))))))))))
      · skip
        replace h := cF g3 h
        replace h := popS h hr1
        refine Exists.intro none ?_
        replace h := Option.some.inj h
        first | subst h | rw [← h]
        exact (And.intro rfl trivial)
  · skip
    replace h := cT (oL g1) h
    refine Exists.intro none ?_
    replace h := Option.some.inj h
    first | subst h | rw [← h]
    exact (And.intro rfl trivial)

theorem c_law21_RankOf (p0 : (List Int)) (r : Bool) (h : law21_RankOf p0 = some r) : Contract Try.prog 3 [.lst 1 false (List.map (eI .i64) p0)] [] (.sb r) [] := by
  refine contract_of_vcs tab_ok orders_ok Try.func3 Try.call3 (by kernel_rfl) 0 rfl rfl _ rfl ?_
  delta law21_RankOf at h
  refine Exists.intro none ?_
  refine Exists.intro none ?_
  refine Exists.intro [.int .i64 (p0.length : Int)] (And.intro (lenS (eI .i64) p0) ?_)
  refine And.intro (fun g1 => ?_) (fun g1 => ?_)
  · skip
    replace h := cT g1 h
    refine Exists.intro none ?_
    obtain ⟨y2_0, e2_0, h⟩ := bS h
    refine Exists.intro (CK.plain _ _) (And.intro (Contract.wk (c_law21_awake y2_0 e2_0) trivial) (And.intro rfl ?_))
    replace h := Option.some.inj h
    first | subst h | rw [← h]
    exact (And.intro rfl trivial)
  · skip
    replace h := cF g1 h
    refine Exists.intro none ?_
    obtain ⟨y3_1, e3_1, h⟩ := bS h
    refine Exists.intro (CK.plain _ _) (And.intro (Contract.wk (c_rank_Of p0 y3_1 e3_1) (And.intro ff (And.intro rfl trivial))) (And.intro rfl ?_))
    refine Exists.intro none ?_
    obtain ⟨y4_1, e4_1, h⟩ := bS h
    refine Exists.intro (CK.plain _ _) (And.intro (Contract.wk (c_ref21_Of p0 y4_1 e4_1) (And.intro ff (And.intro rfl trivial))) (And.intro rfl ?_))
    refine Exists.intro none ?_
    obtain ⟨y5_2, e5_2, h⟩ := bS h
    obtain ⟨y5_10, e5_10, h⟩ := bS h
    obtain ⟨y5_15, e5_15, h⟩ := bS h
    obtain ⟨y5_22, e5_22, h⟩ := bS h
    refine Exists.intro none ?_
    refine Exists.intro (CK.plain _ _) (And.intro (Contract.wk (c_ref21_Same y3_1.1 y4_1.1 y5_2 e5_2) (And.intro rfl (And.intro ff (And.intro rfl (And.intro rfl (And.intro ff (And.intro rfl trivial))))))) (And.intro rfl ?_))
    refine And.intro (fun g2 => ?_) (fun g2 => ?_)
    · skip
      refine And.intro (fun g3 => ?_) (fun g3 => ?_)
      · skip
        refine Exists.intro (CK.plain _ _) (And.intro (Contract.wk (c_rank_Validate y3_1.1 y5_10 (gdT (aR g2 g3) e5_10)) (And.intro rfl (And.intro ff (And.intro rfl trivial)))) (And.intro rfl ?_))
        refine And.intro (fun g4 => ?_) (fun g4 => ?_)
        · skip
          refine Exists.intro (CK.plain _ _) (And.intro (Contract.wk (c_rank_Gap y3_1.1 y5_15 (gdT (aR (aR g2 g3) g4) e5_15)) (And.intro rfl (And.intro ff (And.intro rfl trivial)))) (And.intro rfl ?_))
          refine Exists.intro [.int .i64 (p0.length : Int)] (And.intro (lenS (eI .i64) p0) ?_)
          refine And.intro (fun g5 => ?_) (fun g5 => ?_)
          · skip
            refine Exists.intro (CK.plain _ _) (And.intro (Contract.wk (c_law21_awake y5_22 (gdT (aR (aR (aR g2 g3) g4) g5) e5_22)) trivial) (And.intro rfl ?_))
            replace h := Option.some.inj h
            first | subst h | rw [← h]
            exact (And.intro (Eq.symm (aR (aR (aR (aR g2 g3) g4) g5) rfl)) trivial)
          · skip
            replace h := Option.some.inj h
            first | subst h | rw [← h]
            exact (And.intro (Eq.symm (aL (aR (aR (aR g2 g3) g4) g5))) trivial)
        · skip
          replace h := Option.some.inj h
          first | subst h | rw [← h]
          exact (And.intro (Eq.symm (aL (aL (aR (aR g2 g3) g4)))) trivial)
      · skip
        replace h := Option.some.inj h
        first | subst h | rw [← h]
        exact (And.intro (Eq.symm (aL (aL (aL (aR g2 g3))))) trivial)
    · skip
      replace h := Option.some.inj h
      first | subst h | rw [← h]
      exact (And.intro (Eq.symm (aL (aL (aL (aL g2))))) trivial)

end Go.Proofs.Ytpclnmpmammlfaa
