/- The contracts: each function of the program does what its function on plain data says. Made by program. -/
import Derived.Test.YtpclnmpmammlfaaTab
import Derived.Test.YtpclnmpmammlfaaWin
import Derived.Test.YtpclnmpmammlfaaWalk
import Derived.Test.YtpclnmpmammlfaaSrt
set_option linter.unusedVariables false
set_option linter.unusedSimpArgs false
set_option linter.unnecessarySimpa false
set_option maxHeartbeats 4000000
namespace Go.Proofs.Ytpclnmpmammlfaa
open Go.Vc Go.Dec Go.Win

theorem c_rank_Of (p0 : (List Int)) (r : (api_Ranks × Int)) (h : rank_Of p0 = some r) : Contract Try.prog 13 [.lst 1 false (List.map (eI .i64) p0)] [] (.tup [.agg [.int .i64 r.1.N, .lst 3 false (List.map enc_api_Entry r.1.Entries)], .int .i64 r.2]) [] := by
  refine contract_of_vcs tab_ok orders_ok Try.func13 Try.call13 (by kernel_rfl) 0 rfl rfl _ rfl ?_
  delta rank_Of at h
  refine Exists.intro none ?_
  refine Exists.intro none ?_
  refine Exists.intro [.int .i64 (p0.length : Int)] (And.intro (lenS (eI .i64) p0) ?_)
  refine And.intro (fun g1 => ?_) (fun g1 => ?_)
  · skip
    replace h := cT g1 h
    refine Exists.intro none ?_
    replace h := Option.some.inj h
    first | subst h | rw [← h]
    exact (And.intro rfl (And.intro rfl (And.intro rfl trivial)))
  · skip
    replace h := cF g1 h
    refine Exists.intro none ?_
    obtain ⟨k3_1, h⟩ := ckS h
    refine Exists.intro (CK.fresh _ _ _) (And.intro (clone_int false p0 (of_decide_eq_true k3_1)) (And.intro rfl ?_))
    refine Exists.intro none ?_
    obtain ⟨k4_1, h⟩ := ckS h
    refine Exists.intro (CK.sorts 513 2 p0) (And.intro sorts_int (And.intro (And.intro rfl (And.intro rfl (of_decide_eq_true k4_1))) ?_))
    refine Exists.intro none ?_
    refine Exists.intro [.int .i64 ((sortZ p0).length : Int)] (And.intro (lenS (eI .i64) (sortZ p0)) ?_)
    refine Exists.intro none ?_
    refine Exists.intro [.int .i64 ((sortZ p0).length : Int)] (And.intro (lenS (eI .i64) (sortZ p0)) ?_)
    replace h : rank_Of_l3 p0 (0:Int) ([] : List api_Entry) = some r := h
    delta rank_Of_l3 at h
    obtain ⟨n1, h⟩ := loopS h
    refine Exists.intro ⟨(Int × (List api_Entry)) × Nat, fun q => [(.tmp 2, .av (.ptr 0 0)), (.tmp 5, .av (.ptr 1027 0)), (.tmp 19, .av (.own 513)), (.tmp 20, .av (.int .i64 ((sortZ p0).length : Int))), (.tmp 21, .av (.int .i64 q.1.1)), (.box 0, .box [.int .i64 (0:Int), .nilS]), (.box 1027, .box [.int .i64 ((sortZ p0).length : Int), .own 1535]), (.tok 513, .tok 2 1 (List.map (eI .i64) (sortZ p0))), (.tok 1535, .tok 39 3 (List.map enc_api_Entry q.1.2))], fun q => loopN (fun (s : (Int × (List api_Entry))) => rank_Of_l3s p0 s.1 s.2) q.2 q.1 = some r, fun q => q.2⟩ (And.intro (Exists.intro [(1535, none)] (Exists.intro [] (Exists.intro (((0:Int), ([] : List api_Entry)), n1) (And.intro h (And.intro rfl (And.intro rfl (And.intro rfl (And.intro rfl (And.intro rfl (And.intro rfl (And.intro rfl trivial))))))))))) ?_)
    clear h
    refine fun q h => ?_
    obtain ⟨⟨v3_21, v3_b5x3_1⟩, n1⟩ := q
    obtain ⟨m1, x1, hm1, h, hl1, hr1⟩ := loopN_step h
    replace hm1 : n1 = m1 + 1 := hm1
    subst hm1
    replace h : rank_Of_l3s p0 v3_21 v3_b5x3_1 = some x1 := h
    delta rank_Of_l3s at h
    refine Exists.intro none ?_
    refine And.intro (fun g2 => ?_) (fun g2 => ?_)
    · skip
      replace h := cT g2 h
      refine Exists.intro none ?_
      obtain ⟨x8_1, e8_1, h⟩ := bS h
      obtain ⟨x8_2, e8_2, h⟩ := bS h
      refine And.intro (idx_lt (eI .i64) e8_1) ?_
      refine Exists.intro [.int .i64 x8_2] (And.intro (idx_elt (eI .i64) e8_2) ?_)
      refine Exists.intro none ?_
      obtain ⟨k9_9, h⟩ := ckS h
      refine And.intro (by have hh := (of_decide_eq_true k9_9); (try simp only [encZ, fixRows_length, List.length_map, List.length_append, List.length_take, List.length_drop, List.length_set, List.length_replicate, List.length_cons, List.length_nil] at hh); (try simp only [encZ, fixRows_length, List.length_map, List.length_append, List.length_take, List.length_drop, List.length_set, List.length_replicate, List.length_cons, List.length_nil]); (try simp only [w64, wu64] at hh); (try simp only [w64, wu64]); omega) ?_
      refine Exists.intro none ?_
      exact Exists.intro [(1535, some 2057)] (Exists.intro [] (Exists.intro (((w64 (v3_21 + (1:Int))), (v3_b5x3_1 ++ [(api_Entry.mk x8_2 (w64 (v3_21 + (1:Int))) (w64 (v3_21 + (1:Int))))])), m1) (And.intro (hl1 ((w64 (v3_21 + (1:Int))), (v3_b5x3_1 ++ [(api_Entry.mk x8_2 (w64 (v3_21 + (1:Int))) (w64 (v3_21 + (1:Int))))])) (Option.some.inj h).symm) (And.intro (Nat.lt_succ_self m1) (And.intro rfl (And.intro rfl (And.intro rfl (And.intro rfl (And.intro rfl (And.intro rfl (And.intro (by first | rfl | (simp only [encZ, List.map_append, List.map_cons, List.map_nil, List.map_take, List.map_drop, List.map_set, List.map_replicate]; done) | (simp only [encZ, List.map_append, List.map_cons, List.map_nil, List.map_take, List.map_drop, List.map_set, List.map_replicate]; rfl) | (simp only [encZ, List.map_append, List.map_cons, List.map_nil, List.map_take, List.map_drop, List.map_set, List.map_replicate, eL, enc_api_Ranks, enc_api_Recent, enc_api_Answer]; done) | (simp only [encZ, List.map_append, List.map_cons, List.map_nil, List.map_take, List.map_drop, List.map_set, List.map_replicate, eL, enc_api_Ranks, enc_api_Recent, enc_api_Answer]; rfl)) trivial)))))))))))
    · skip
      replace h := cF g2 h
      replace h := popS h hr1
      refine Exists.intro none ?_
      replace h := Option.some.inj h
      first | subst h | rw [← h]
      exact (And.intro rfl (And.intro ff (And.intro rfl (And.intro rfl trivial))))

theorem c_law21_awake (r : Bool) (h : law21_awake = some r) : Contract Try.prog 12 [] [] (.sb r) [] := by
  refine contract_of_vcs tab_ok orders_ok Try.func12 Try.call12 (by kernel_rfl) 0 rfl rfl _ rfl ?_
  delta law21_awake at h
  refine Exists.intro none ?_
  refine Exists.intro none ?_
  obtain ⟨y1_1, e1_1, h⟩ := bS h
  refine Exists.intro (CK.plain _ _) (And.intro (Contract.wk (c_rank_Of [(3:Int), (1:Int)] y1_1 e1_1) (And.intro ff (And.intro (by first | rfl | (simp only [encZ, List.map_append, List.map_cons, List.map_nil, List.map_take, List.map_drop, List.map_set, List.map_replicate]; done) | (simp only [encZ, List.map_append, List.map_cons, List.map_nil, List.map_take, List.map_drop, List.map_set, List.map_replicate]; rfl) | (simp only [encZ, List.map_append, List.map_cons, List.map_nil, List.map_take, List.map_drop, List.map_set, List.map_replicate, eL, enc_api_Ranks, enc_api_Recent, enc_api_Answer]; done) | (simp only [encZ, List.map_append, List.map_cons, List.map_nil, List.map_take, List.map_drop, List.map_set, List.map_replicate, eL, enc_api_Ranks, enc_api_Recent, enc_api_Answer]; rfl)) trivial))) (And.intro rfl ?_))
  refine Exists.intro none ?_
  obtain ⟨x2_16, e2_16, h⟩ := bS h
  refine Exists.intro none ?_
  refine And.intro (fun g1 => ?_) (fun g1 => ?_)
  · skip
    refine And.intro (fun g2 => ?_) (fun g2 => ?_)
    · skip
      refine Exists.intro [.int .i64 (y1_1.1.Entries.length : Int)] (And.intro (lenS enc_api_Entry y1_1.1.Entries) ?_)
      refine And.intro (fun g3 => ?_) (fun g3 => ?_)
      · skip
        refine Exists.intro [.int .i64 x2_16.V, .int .i64 x2_16.Min, .int .i64 x2_16.Max] (And.intro (idx_map enc_api_Entry (gdT (aR (aR g1 g2) g3) e2_16)) ?_)
        replace h := Option.some.inj h
        first | subst h | rw [← h]
        exact (And.intro (Eq.symm (aR (aR (aR g1 g2) g3) rfl)) trivial)
      · skip
        replace h := Option.some.inj h
        first | subst h | rw [← h]
        exact (And.intro (Eq.symm (aL (aR (aR g1 g2) g3))) trivial)
    · skip
      replace h := Option.some.inj h
      first | subst h | rw [← h]
      exact (And.intro (Eq.symm (aL (aL (aR g1 g2)))) trivial)
  · skip
    replace h := Option.some.inj h
    first | subst h | rw [← h]
    exact (And.intro (Eq.symm (aL (aL (aL g1)))) trivial)

theorem c_rank_Validate (p0 : api_Ranks) (r : Int) (h : rank_Validate p0 = some r) : Contract Try.prog 16 [.agg [.int .i64 p0.N, .lst 3 false (List.map enc_api_Entry p0.Entries)]] [] (.int .i64 r) [] := by
  refine contract_of_vcs tab_ok orders_ok Try.func16 Try.call16 (by kernel_rfl) 0 rfl rfl _ rfl ?_
  delta rank_Validate at h
  refine Exists.intro none ?_
  refine Exists.intro none ?_
  refine Exists.intro [.int .i64 (p0.Entries.length : Int)] (And.intro (lenS enc_api_Entry p0.Entries) ?_)
  refine Exists.intro none ?_
  refine Exists.intro none ?_
  refine And.intro (fun g1 => ?_) (fun g1 => ?_)
  · skip
    refine And.intro (fun g2 => ?_) (fun g2 => ?_)
    · skip
      refine And.intro (fun g3 => ?_) (fun g3 => ?_)
      · skip
        replace h := cT (oR (oR g1 g2) g3) h
        refine Exists.intro none ?_
        replace h := Option.some.inj h
        first | subst h | rw [← h]
        exact (And.intro rfl trivial)
      · skip
        replace h := cF (oR (oR g1 g2) g3) h
        refine Exists.intro none ?_
        refine Exists.intro [.int .i64 (p0.Entries.length : Int)] (And.intro (lenS enc_api_Entry p0.Entries) ?_)
        replace h : rank_Validate_l3 p0 (0:Int) = some r := h
        delta rank_Validate_l3 at h
        obtain ⟨n1, h⟩ := loopS h
        refine Exists.intro ⟨Int × Nat, fun q => [(.tmp 1, .av (.ptr 0 0)), (.tmp 3, .av (.int .i64 (p0.Entries.length : Int))), (.tmp 27, .av (.lst 3 false (List.map enc_api_Entry p0.Entries))), (.tmp 28, .av (.int .i64 (p0.Entries.length : Int))), (.tmp 29, .av (.int .i64 q.1)), (.box 0, .box [.int .i64 p0.N, .lst 3 false (List.map enc_api_Entry p0.Entries)])], fun q => loopN (fun (s : Int) => rank_Validate_l3s p0 s) q.2 q.1 = some r, fun q => q.2⟩ (And.intro (Exists.intro [] (Exists.intro [] (Exists.intro ((0:Int), n1) (And.intro h (And.intro rfl (And.intro rfl (And.intro ff (And.intro rfl (And.intro rfl (And.intro rfl (And.intro rfl (And.intro ff (And.intro rfl trivial))))))))))))) ?_)
        clear h
        refine fun q h => ?_
        obtain ⟨v3_29, n1⟩ := q
        obtain ⟨m1, x1, hm1, h, hl1, hr1⟩ := loopN_step h
        replace hm1 : n1 = m1 + 1 := hm1
        subst hm1
        replace h : rank_Validate_l3s p0 v3_29 = some x1 := h
        delta rank_Validate_l3s at h
        refine Exists.intro none ?_
        refine And.intro (fun g4 => ?_) (fun g4 => ?_)
        · skip
          replace h := cT g4 h
          refine Exists.intro none ?_
          refine Exists.intro none ?_
          obtain ⟨x6_1, e6_1, h⟩ := bS h
          refine Exists.intro [.int .i64 x6_1.V, .int .i64 x6_1.Min, .int .i64 x6_1.Max] (And.intro (idx_map enc_api_Entry e6_1) ?_)
          refine Exists.intro none ?_
          refine Exists.intro none ?_
          refine And.intro (fun g5 => ?_) (fun g5 => ?_)
          · skip
            refine And.intro (fun g6 => ?_) (fun g6 => ?_)
            · skip
              refine And.intro (fun g7 => ?_) (fun g7 => ?_)
              · skip
                replace h := cT (oR (oR g5 g6) g7) h
                refine Exists.intro none ?_
                replace h := retS h hr1
                first | subst h | rw [← h]
                exact (And.intro rfl trivial)
              · skip
                replace h := cF (oR (oR g5 g6) g7) h
                refine Exists.intro none ?_
                refine Exists.intro none ?_
                refine And.intro (fun g8 => ?_) (fun g8 => ?_)
                · skip
                  replace h := cT g8 h
                  refine Exists.intro none ?_
                  obtain ⟨x10_4, e10_4, h⟩ := bS h
                  refine Exists.intro [.int .i64 x10_4.V, .int .i64 x10_4.Min, .int .i64 x10_4.Max] (And.intro (idx_map enc_api_Entry e10_4) ?_)
                  refine Exists.intro none ?_
                  refine Exists.intro none ?_
                  refine And.intro (fun g9 => ?_) (fun g9 => ?_)
                  · skip
                    refine And.intro (fun g10 => ?_) (fun g10 => ?_)
                    · skip
                      refine And.intro (fun g11 => ?_) (fun g11 => ?_)
                      · skip
                        replace h := cT (oR (oR g9 g10) g11) h
                        refine Exists.intro none ?_
                        replace h := retS h hr1
                        first | subst h | rw [← h]
                        exact (And.intro rfl trivial)
                      · skip
                        replace h := cF (oR (oR g9 g10) g11) h
                        refine Exists.intro none ?_
                        exact Exists.intro [] (Exists.intro [] (Exists.intro ((w64 (v3_29 + (1:Int))), m1) (And.intro (hl1 (w64 (v3_29 + (1:Int))) (Option.some.inj h).symm) (And.intro (Nat.lt_succ_self m1) (And.intro rfl (And.intro rfl (And.intro ff (And.intro rfl (And.intro rfl (And.intro rfl (And.intro rfl (And.intro ff (And.intro rfl trivial)))))))))))))
                    · skip
                      replace h := cT (oL (oR g9 g10)) h
                      refine Exists.intro none ?_
                      replace h := retS h hr1
                      first | subst h | rw [← h]
                      exact (And.intro rfl trivial)
                  · skip
                    replace h := cT (oL (oL g9)) h
                    refine Exists.intro none ?_
                    replace h := retS h hr1
                    first | subst h | rw [← h]
                    exact (And.intro rfl trivial)
                · skip
                  replace h := cF g8 h
                  refine Exists.intro none ?_
                  exact Exists.intro [] (Exists.intro [] (Exists.intro ((w64 (v3_29 + (1:Int))), m1) (And.intro (hl1 (w64 (v3_29 + (1:Int))) (Option.some.inj h).symm) (And.intro (Nat.lt_succ_self m1) (And.intro rfl (And.intro rfl (And.intro ff (And.intro rfl (And.intro rfl (And.intro rfl (And.intro rfl (And.intro ff (And.intro rfl trivial)))))))))))))
            · skip
              replace h := cT (oL (oR g5 g6)) h
              refine Exists.intro none ?_
              replace h := retS h hr1
              first | subst h | rw [← h]
              exact (And.intro rfl trivial)
          · skip
            replace h := cT (oL (oL g5)) h
            refine Exists.intro none ?_
            replace h := retS h hr1
            first | subst h | rw [← h]
            exact (And.intro rfl trivial)
        · skip
          replace h := cF g4 h
          replace h := popS h hr1
          refine Exists.intro none ?_
          obtain ⟨x14_5, e14_5, h⟩ := bS h
          obtain ⟨x14_14, e14_14, h⟩ := bS h
          refine Exists.intro (some (⟨Unit, fun _ => [(.tmp 100, .av (.sb ((decide ((p0.Entries.length : Int) > (0:Int))) && ((x14_5.Max != (1:Int)) || (x14_14.Min != p0.N)))))], fun _ => True, fun _ => 0⟩, 1000000)) (And.intro ?_ (fun _ _ => ?_))
          · skip
            refine And.intro (fun g12 => ?_) (fun g12 => ?_)
            · skip
              refine Exists.intro [.int .i64 x14_5.V, .int .i64 x14_5.Min, .int .i64 x14_5.Max] (And.intro (idx_map enc_api_Entry (gdT g12 e14_5)) ?_)
              refine And.intro (fun g13 => ?_) (fun g13 => ?_)
              · skip
                refine Exists.intro [.int .i64 x14_14.V, .int .i64 x14_14.Min, .int .i64 x14_14.Max] (And.intro (idx_map enc_api_Entry (gdT (aR g12 (nE g13)) e14_14)) ?_)
                exact Exists.intro [] (Exists.intro [] (Exists.intro () (And.intro trivial (And.intro rfl (And.intro (Eq.symm (aR g12 (oR g13 rfl))) trivial)))))
              · skip
                exact Exists.intro [] (Exists.intro [] (Exists.intro () (And.intro trivial (And.intro rfl (And.intro (Eq.symm (aR g12 (oL g13))) trivial)))))
            · skip
              exact Exists.intro [] (Exists.intro [] (Exists.intro () (And.intro trivial (And.intro rfl (And.intro (Eq.symm (aL g12)) trivial)))))
          · skip
            refine And.intro (fun g14 => ?_) (fun g14 => ?_)
            · skip
              replace h := cT g14 h
              refine Exists.intro none ?_
              replace h := Option.some.inj h
              first | subst h | rw [← h]
              exact (And.intro rfl trivial)
            · skip
              replace h := cF g14 h
              refine Exists.intro none ?_
              replace h := Option.some.inj h
              first | subst h | rw [← h]
              exact (And.intro rfl trivial)
    · skip
      replace h := cT (oL (oR g1 g2)) h
      refine Exists.intro none ?_
      replace h := Option.some.inj h
      first | subst h | rw [← h]
      exact (And.intro rfl trivial)
  · skip
    replace h := cT (oL (oL g1)) h
    refine Exists.intro none ?_
    replace h := Option.some.inj h
    first | subst h | rw [← h]
    exact (And.intro rfl trivial)

theorem c_rank_Gap (p0 : api_Ranks) (r : Int) (h : rank_Gap p0 = some r) : Contract Try.prog 17 [.agg [.int .i64 p0.N, .lst 3 false (List.map enc_api_Entry p0.Entries)]] [] (.int .i64 r) [] := by
  refine contract_of_vcs tab_ok orders_ok Try.func17 Try.call17 (by kernel_rfl) 0 rfl rfl _ rfl ?_
  delta rank_Gap at h
  refine Exists.intro none ?_
  refine Exists.intro none ?_
  obtain ⟨y1_1, e1_1, h⟩ := bS h
  refine Exists.intro none ?_
  refine Exists.intro (CK.plain _ _) (And.intro (Contract.wk (c_rank_Validate p0 y1_1 e1_1) (And.intro rfl (And.intro ff (And.intro rfl trivial)))) (And.intro rfl ?_))
  refine And.intro (fun g1 => ?_) (fun g1 => ?_)
  · skip
    refine Exists.intro [.int .i64 (p0.Entries.length : Int)] (And.intro (lenS enc_api_Entry p0.Entries) ?_)
    refine And.intro (fun g2 => ?_) (fun g2 => ?_)
    · skip
      replace h := cT (oR g1 g2) h
      refine Exists.intro none ?_
      replace h := Option.some.inj h
      first | subst h | rw [← h]
      exact (And.intro rfl trivial)
    · skip
      replace h := cF (oR g1 g2) h
      refine Exists.intro none ?_
      refine Exists.intro none ?_
      replace h : rank_Gap_l3 p0 (1:Int) (1:Int) = some r := h
      delta rank_Gap_l3 at h
      obtain ⟨n1, h⟩ := loopS h
      refine Exists.intro ⟨(Int × Int) × Nat, fun q => [(.tmp 1, .av (.ptr 0 0)), (.tmp 3, .av (.int .i64 q.1.1)), (.tmp 4, .av (.int .i64 q.1.2)), (.box 0, .box [.int .i64 p0.N, .lst 3 false (List.map enc_api_Entry p0.Entries)])], fun q => loopN (fun (s : (Int × Int)) => rank_Gap_l3s p0 s.1 s.2) q.2 q.1 = some r, fun q => q.2⟩ (And.intro (Exists.intro [] (Exists.intro [] (Exists.intro (((1:Int), (1:Int)), n1) (And.intro h (And.intro rfl (And.intro rfl (And.intro rfl (And.intro rfl (And.intro ff (And.intro rfl trivial)))))))))) ?_)
      clear h
      refine fun q h => ?_
      obtain ⟨⟨v3_3, v3_4⟩, n1⟩ := q
      obtain ⟨m1, x1, hm1, h, hl1, hr1⟩ := loopN_step h
      replace hm1 : n1 = m1 + 1 := hm1
      subst hm1
      replace h : rank_Gap_l3s p0 v3_3 v3_4 = some x1 := h
      delta rank_Gap_l3s at h
      refine Exists.intro none ?_
      refine Exists.intro [.int .i64 (p0.Entries.length : Int)] (And.intro (lenS enc_api_Entry p0.Entries) ?_)
      refine And.intro (fun g3 => ?_) (fun g3 => ?_)
      · skip
        replace h := cT g3 h
        refine Exists.intro none ?_
        obtain ⟨x7_4, e7_4, h⟩ := bS h
        obtain ⟨x7_11, e7_11, h⟩ := bS h
        refine Exists.intro [.int .i64 x7_4.V, .int .i64 x7_4.Min, .int .i64 x7_4.Max] (And.intro (idx_map enc_api_Entry e7_4) ?_)
        refine Exists.intro [.int .i64 x7_11.V, .int .i64 x7_11.Min, .int .i64 x7_11.Max] (And.intro (idx_map enc_api_Entry e7_11) ?_)
        refine Exists.intro none ?_
        exact Exists.intro [] (Exists.intro [] (Exists.intro (((imax v3_3 (w64 (x7_4.Max - x7_11.Min))), (w64 (v3_4 + (1:Int)))), m1) (And.intro (hl1 ((imax v3_3 (w64 (x7_4.Max - x7_11.Min))), (w64 (v3_4 + (1:Int)))) (Option.some.inj h).symm) (And.intro (Nat.lt_succ_self m1) (And.intro rfl (And.intro rfl (And.intro rfl (And.intro rfl (And.intro ff (And.intro rfl trivial))))))))))
      · skip
        replace h := cF g3 h
        replace h := popS h hr1
        refine Exists.intro none ?_
        replace h := Option.some.inj h
        first | subst h | rw [← h]
        exact (And.intro rfl trivial)
  · skip
    replace h := cT (oL g1) h
    refine Exists.intro none ?_
    replace h := Option.some.inj h
    first | subst h | rw [← h]
    exact (And.intro rfl trivial)

theorem c_law21_few' (p0 : api_Ranks) (r : Bool) (h : law21_few p0 = r) : Contract Try.prog 18 [.agg [.int .i64 p0.N, .lst 3 false (List.map enc_api_Entry p0.Entries)]] [] (.sb r) [] := by
  refine contract_of_vcs tab_ok orders_ok Try.func18 Try.call18 (by kernel_rfl) 0 rfl rfl _ rfl ?_
  delta law21_few at h
  refine Exists.intro none ?_
  refine Exists.intro none ?_
  refine Exists.intro [.int .i64 (p0.Entries.length : Int)] (And.intro (lenS enc_api_Entry p0.Entries) ?_)
  first | subst h | rw [← h]
  exact (And.intro rfl trivial)
theorem c_law21_few (p0 : api_Ranks) : Contract Try.prog 18 [.agg [.int .i64 p0.N, .lst 3 false (List.map enc_api_Entry p0.Entries)]] [] (.sb (law21_few p0)) [] := c_law21_few' p0 (law21_few p0) rfl

theorem c_ref21_Validate (p0 : api_Ranks) (r : Int) (h : ref21_Validate p0 = some r) : Contract Try.prog 19 [.agg [.int .i64 p0.N, .lst 3 false (List.map enc_api_Entry p0.Entries)]] [] (.int .i64 r) [] := by
  refine contract_of_vcs tab_ok orders_ok Try.func19 Try.call19 (by kernel_rfl) 0 rfl rfl _ rfl ?_
  delta ref21_Validate at h
  refine Exists.intro none ?_
  refine Exists.intro none ?_
  refine Exists.intro none ?_
  refine And.intro (fun g1 => ?_) (fun g1 => ?_)
  · skip
    refine And.intro (fun g2 => ?_) (fun g2 => ?_)
    · skip
      refine Exists.intro [.int .i64 (p0.Entries.length : Int)] (And.intro (lenS enc_api_Entry p0.Entries) ?_)
      refine And.intro (fun g3 => ?_) (fun g3 => ?_)
      · skip
        replace h := cT (oR (oR g1 g2) g3) h
        refine Exists.intro none ?_
        replace h := Option.some.inj h
        first | subst h | rw [← h]
        exact (And.intro rfl trivial)
      · skip
        replace h := cF (oR (oR g1 g2) g3) h
        refine Exists.intro none ?_
        refine Exists.intro [.int .i64 (p0.Entries.length : Int)] (And.intro (lenS enc_api_Entry p0.Entries) ?_)
        replace h : ref21_Validate_l3 p0 (0:Int) = some r := h
        delta ref21_Validate_l3 at h
        obtain ⟨n1, h⟩ := loopS h
        refine Exists.intro ⟨Int × Nat, fun q => [(.tmp 1, .av (.ptr 0 0)), (.tmp 25, .av (.lst 3 false (List.map enc_api_Entry p0.Entries))), (.tmp 26, .av (.int .i64 (p0.Entries.length : Int))), (.tmp 27, .av (.int .i64 q.1)), (.box 0, .box [.int .i64 p0.N, .lst 3 false (List.map enc_api_Entry p0.Entries)])], fun q => loopN (fun (s : Int) => ref21_Validate_l3s p0 s) q.2 q.1 = some r, fun q => q.2⟩ (And.intro (Exists.intro [] (Exists.intro [] (Exists.intro ((0:Int), n1) (And.intro h (And.intro rfl (And.intro ff (And.intro rfl (And.intro rfl (And.intro rfl (And.intro rfl (And.intro ff (And.intro rfl trivial)))))))))))) ?_)
        clear h
        refine fun q h => ?_
        obtain ⟨v3_27, n1⟩ := q
        obtain ⟨m1, x1, hm1, h, hl1, hr1⟩ := loopN_step h
        replace hm1 : n1 = m1 + 1 := hm1
        subst hm1
        replace h : ref21_Validate_l3s p0 v3_27 = some x1 := h
        delta ref21_Validate_l3s at h
        refine Exists.intro none ?_
        refine And.intro (fun g4 => ?_) (fun g4 => ?_)
        · skip
          replace h := cT g4 h
          refine Exists.intro none ?_
          refine Exists.intro none ?_
          obtain ⟨x5_1, e5_1, h⟩ := bS h
          refine Exists.intro [.int .i64 x5_1.V, .int .i64 x5_1.Min, .int .i64 x5_1.Max] (And.intro (idx_map enc_api_Entry e5_1) ?_)
          refine Exists.intro none ?_
          refine Exists.intro (some (⟨Unit, fun _ => [(.tmp 1, .av (.ptr 0 0)), (.tmp 3, .av (.int .i64 v3_27)), (.tmp 4, .av (.ptr 1027 0)), (.tmp 25, .av (.lst 3 false (List.map enc_api_Entry p0.Entries))), (.tmp 26, .av (.int .i64 (p0.Entries.length : Int))), (.tmp 27, .av (.int .i64 v3_27)), (.tmp 72, .av (.sb (((((decide (x5_1.Min < (1:Int))) || (decide (x5_1.Min > x5_1.Max))) || (decide (x5_1.Max > p0.N))) || ((v3_27 == (0:Int)) && (x5_1.Max != (1:Int)))) || ((v3_27 == (w64 ((p0.Entries.length : Int) - (1:Int)))) && (x5_1.Min != p0.N))))), (.box 0, .box [.int .i64 p0.N, .lst 3 false (List.map enc_api_Entry p0.Entries)]), (.box 1027, .box [.int .i64 x5_1.V, .int .i64 x5_1.Min, .int .i64 x5_1.Max])], fun _ => True, fun _ => 0⟩, 1000000)) (And.intro ?_ (fun _ _ => ?_))
          · skip
            refine And.intro (fun g5 => ?_) (fun g5 => ?_)
            · skip
              refine And.intro (fun g6 => ?_) (fun g6 => ?_)
              · skip
                refine And.intro (fun g7 => ?_) (fun g7 => ?_)
                · skip
                  refine And.intro (fun g8 => ?_) (fun g8 => ?_)
                  · skip
                    refine And.intro (fun g9 => ?_) (fun g9 => ?_)
                    · skip
                      refine Exists.intro [.int .i64 (p0.Entries.length : Int)] (And.intro (lenS enc_api_Entry p0.Entries) ?_)
                      refine And.intro (fun g10 => ?_) (fun g10 => ?_)
                      · skip
                        exact Exists.intro [] (Exists.intro [] (Exists.intro () (And.intro trivial (And.intro rfl (And.intro rfl (And.intro ff (And.intro rfl (And.intro rfl (And.intro rfl (And.intro (Eq.symm (oR (oR (oR (oR g5 g6) g7) (aR g8 g9)) (aR g10 rfl))) (And.intro rfl (And.intro ff (And.intro rfl (And.intro rfl (And.intro rfl (And.intro rfl trivial))))))))))))))))
                      · skip
                        exact Exists.intro [] (Exists.intro [] (Exists.intro () (And.intro trivial (And.intro rfl (And.intro rfl (And.intro ff (And.intro rfl (And.intro rfl (And.intro rfl (And.intro (Eq.symm (oR (oR (oR (oR g5 g6) g7) (aR g8 g9)) (aL g10))) (And.intro rfl (And.intro ff (And.intro rfl (And.intro rfl (And.intro rfl (And.intro rfl trivial))))))))))))))))
                    · skip
                      exact Exists.intro [] (Exists.intro [] (Exists.intro () (And.intro trivial (And.intro rfl (And.intro rfl (And.intro ff (And.intro rfl (And.intro rfl (And.intro rfl (And.intro (Eq.symm (oL (oR (oR (oR g5 g6) g7) (aR g8 g9)))) (And.intro rfl (And.intro ff (And.intro rfl (And.intro rfl (And.intro rfl (And.intro rfl trivial))))))))))))))))
                  · skip
                    refine Exists.intro [.int .i64 (p0.Entries.length : Int)] (And.intro (lenS enc_api_Entry p0.Entries) ?_)
                    refine And.intro (fun g11 => ?_) (fun g11 => ?_)
                    · skip
                      exact Exists.intro [] (Exists.intro [] (Exists.intro () (And.intro trivial (And.intro rfl (And.intro rfl (And.intro ff (And.intro rfl (And.intro rfl (And.intro rfl (And.intro (Eq.symm (oR (oR (oR (oR g5 g6) g7) (aL g8)) (aR g11 rfl))) (And.intro rfl (And.intro ff (And.intro rfl (And.intro rfl (And.intro rfl (And.intro rfl trivial))))))))))))))))
                    · skip
                      exact Exists.intro [] (Exists.intro [] (Exists.intro () (And.intro trivial (And.intro rfl (And.intro rfl (And.intro ff (And.intro rfl (And.intro rfl (And.intro rfl (And.intro (Eq.symm (oR (oR (oR (oR g5 g6) g7) (aL g8)) (aL g11))) (And.intro rfl (And.intro ff (And.intro rfl (And.intro rfl (And.intro rfl (And.intro rfl trivial))))))))))))))))
                · skip
                  exact Exists.intro [] (Exists.intro [] (Exists.intro () (And.intro trivial (And.intro rfl (And.intro rfl (And.intro ff (And.intro rfl (And.intro rfl (And.intro rfl (And.intro (Eq.symm (oL (oL (oR (oR g5 g6) g7)))) (And.intro rfl (And.intro ff (And.intro rfl (And.intro rfl (And.intro rfl (And.intro rfl trivial))))))))))))))))
              · skip
                exact Exists.intro [] (Exists.intro [] (Exists.intro () (And.intro trivial (And.intro rfl (And.intro rfl (And.intro ff (And.intro rfl (And.intro rfl (And.intro rfl (And.intro (Eq.symm (oL (oL (oL (oR g5 g6))))) (And.intro rfl (And.intro ff (And.intro rfl (And.intro rfl (And.intro rfl (And.intro rfl trivial))))))))))))))))
            · skip
              exact Exists.intro [] (Exists.intro [] (Exists.intro () (And.intro trivial (And.intro rfl (And.intro rfl (And.intro ff (And.intro rfl (And.intro rfl (And.intro rfl (And.intro (Eq.symm (oL (oL (oL (oL g5))))) (And.intro rfl (And.intro ff (And.intro rfl (And.intro rfl (And.intro rfl (And.intro rfl trivial))))))))))))))))
          · skip
            refine And.intro (fun g12 => ?_) (fun g12 => ?_)
            · skip
              replace h := cT g12 h
              refine Exists.intro none ?_
              replace h := retS h hr1
              first | subst h | rw [← h]
              exact (And.intro rfl trivial)
            · skip
              replace h := cF g12 h
              refine Exists.intro none ?_
              refine Exists.intro none ?_
              refine And.intro (fun g13 => ?_) (fun g13 => ?_)
              · skip
                replace h := cT g13 h
                refine Exists.intro none ?_
                obtain ⟨x9_4, e9_4, h⟩ := bS h
                refine Exists.intro [.int .i64 x9_4.V, .int .i64 x9_4.Min, .int .i64 x9_4.Max] (And.intro (idx_map enc_api_Entry e9_4) ?_)
                refine Exists.intro none ?_
                refine Exists.intro none ?_
                refine And.intro (fun g14 => ?_) (fun g14 => ?_)
                · skip
                  refine And.intro (fun g15 => ?_) (fun g15 => ?_)
                  · skip
                    refine And.intro (fun g16 => ?_) (fun g16 => ?_)
                    · skip
                      replace h := cT (oR (oR g14 g15) g16) h
                      refine Exists.intro none ?_
                      replace h := retS h hr1
                      first | subst h | rw [← h]
                      exact (And.intro rfl trivial)
                    · skip
                      replace h := cF (oR (oR g14 g15) g16) h
                      refine Exists.intro none ?_
                      exact Exists.intro [] (Exists.intro [] (Exists.intro ((w64 (v3_27 + (1:Int))), m1) (And.intro (hl1 (w64 (v3_27 + (1:Int))) (Option.some.inj h).symm) (And.intro (Nat.lt_succ_self m1) (And.intro rfl (And.intro ff (And.intro rfl (And.intro rfl (And.intro rfl (And.intro rfl (And.intro ff (And.intro rfl trivial))))))))))))
                  · skip
                    replace h := cT (oL (oR g14 g15)) h
                    refine Exists.intro none ?_
                    replace h := retS h hr1
                    first | subst h | rw [← h]
                    exact (And.intro rfl trivial)
                · skip
                  replace h := cT (oL (oL g14)) h
                  refine Exists.intro none ?_
                  replace h := retS h hr1
                  first | subst h | rw [← h]
                  exact (And.intro rfl trivial)
              · skip
                replace h := cF g13 h
                refine Exists.intro none ?_
                exact Exists.intro [] (Exists.intro [] (Exists.intro ((w64 (v3_27 + (1:Int))), m1) (And.intro (hl1 (w64 (v3_27 + (1:Int))) (Option.some.inj h).symm) (And.intro (Nat.lt_succ_self m1) (And.intro rfl (And.intro ff (And.intro rfl (And.intro rfl (And.intro rfl (And.intro rfl (And.intro ff (And.intro rfl trivial))))))))))))
        · skip
          replace h := cF g4 h
          replace h := popS h hr1
          refine Exists.intro none ?_
          replace h := Option.some.inj h
          first | subst h | rw [← h]
          exact (And.intro rfl trivial)
    · skip
      replace h := cT (oL (oR g1 g2)) h
      refine Exists.intro none ?_
      replace h := Option.some.inj h
      first | subst h | rw [← h]
      exact (And.intro rfl trivial)
  · skip
    replace h := cT (oL (oL g1)) h
    refine Exists.intro none ?_
    replace h := Option.some.inj h
    first | subst h | rw [← h]
    exact (And.intro rfl trivial)

theorem c_made_Mod (p0 : Int) (p1 : Int) (r : Int) (h : made_Mod p0 p1 = some r) : Contract Try.prog 21 [.int .i64 p0, .int .i64 p1] [] (.int .i64 r) [] := by
  refine contract_of_vcs tab_ok orders_ok Try.func21 Try.call21 (by kernel_rfl) 0 rfl rfl _ rfl ?_
  delta made_Mod at h
  refine Exists.intro none ?_
  refine Exists.intro none ?_
  obtain ⟨k1_2, h⟩ := ckS h
  refine And.intro (of_decide_eq_true k1_2) ?_
  refine Exists.intro none ?_
  refine And.intro (fun g1 => ?_) (fun g1 => ?_)
  · skip
    replace h := cT g1 h
    refine Exists.intro none ?_
    replace h := Option.some.inj h
    first | subst h | rw [← h]
    exact (And.intro rfl trivial)
  · skip
    replace h := cF g1 h
    refine Exists.intro none ?_
    replace h := Option.some.inj h
    first | subst h | rw [← h]
    exact (And.intro rfl trivial)

theorem c_rank_far' (p0 : api_Entry) (p1 : Int) (r : Int) (h : rank_far p0 p1 = r) : Contract Try.prog 85 [.agg [.int .i64 p0.V, .int .i64 p0.Min, .int .i64 p0.Max], .int .i64 p1] [] (.int .i64 r) [] := by
  refine contract_of_vcs tab_ok orders_ok Try.func85 Try.call85 (by kernel_rfl) 0 rfl rfl _ rfl ?_
  delta rank_far at h
  refine Exists.intro none ?_
  refine Exists.intro none ?_
  first | subst h | rw [← h]
  exact (And.intro rfl trivial)
theorem c_rank_far (p0 : api_Entry) (p1 : Int) : Contract Try.prog 85 [.agg [.int .i64 p0.V, .int .i64 p0.Min, .int .i64 p0.Max], .int .i64 p1] [] (.int .i64 (rank_far p0 p1)) [] := c_rank_far' p0 p1 (rank_far p0 p1) rfl

theorem c_rank_place (p0 : (List api_Entry)) (p1 : Int) (p2 : Int) (r : Int) (h : rank_place p0 p1 p2 = some r) : Contract Try.prog 52 [.lst 3 false (List.map enc_api_Entry p0), .int .i64 p1, .int .i64 p2] [] (.int .i64 r) [] := by
  refine contract_of_vcs tab_ok orders_ok Try.func52 Try.call52 (by kernel_rfl) 0 rfl rfl _ rfl ?_
  delta rank_place at h
  refine Exists.intro none ?_
  replace h : rank_place_l2 p0 p1 p2 = some r := h
  delta rank_place_l2 at h
  obtain ⟨n1, h⟩ := loopS h
  refine Exists.intro ⟨Int × Nat, fun q => [(.tmp 0, .av (.lst 3 false (List.map enc_api_Entry p0))), (.tmp 1, .av (.int .i64 p1)), (.tmp 2, .av (.int .i64 q.1))], fun q => loopN (fun (s : Int) => rank_place_l2s p0 p1 s) q.2 q.1 = some r, fun q => q.2⟩ (And.intro (Exists.intro [] (Exists.intro [] (Exists.intro (p2, n1) (And.intro h (And.intro rfl (And.intro ff (And.intro rfl (And.intro rfl (And.intro rfl trivial))))))))) ?_)
  clear h
  refine fun q h => ?_
  obtain ⟨v2_2, n1⟩ := q
  obtain ⟨m1, x1, hm1, h, hl1, hr1⟩ := loopN_step h
  replace hm1 : n1 = m1 + 1 := hm1
  subst hm1
  replace h : rank_place_l2s p0 p1 v2_2 = some x1 := h
  delta rank_place_l2s at h
  refine Exists.intro none ?_
  obtain ⟨x1_9, e1_9, h⟩ := bS h
  obtain ⟨x1_15, e1_15, h⟩ := bS h
  refine Exists.intro (some (⟨Unit, fun _ => [(.tmp 0, .av (.lst 3 false (List.map enc_api_Entry p0))), (.tmp 1, .av (.int .i64 p1)), (.tmp 2, .av (.int .i64 v2_2)), (.tmp 27, .av (.sb ((decide ((w64 (v2_2 + (1:Int))) < (p0.length : Int))) && (decide ((rank_far x1_9 p1) < (rank_far x1_15 p1))))))], fun _ => True, fun _ => 0⟩, 1000000)) (And.intro ?_ (fun _ _ => ?_))
  · skip
    refine Exists.intro [.int .i64 (p0.length : Int)] (And.intro (lenS enc_api_Entry p0) ?_)
    refine And.intro (fun g1 => ?_) (fun g1 => ?_)
    · skip
      refine Exists.intro [.int .i64 x1_9.V, .int .i64 x1_9.Min, .int .i64 x1_9.Max] (And.intro (idx_map enc_api_Entry (gdT g1 e1_9)) ?_)
      refine Exists.intro (CK.plain _ _) (And.intro (Contract.wk (c_rank_far x1_9 p1) (And.intro rfl (And.intro rfl (And.intro rfl (And.intro rfl trivial))))) (And.intro rfl ?_))
      refine Exists.intro [.int .i64 x1_15.V, .int .i64 x1_15.Min, .int .i64 x1_15.Max] (And.intro (idx_map enc_api_Entry (gdT g1 e1_15)) ?_)
      refine Exists.intro (CK.plain _ _) (And.intro (Contract.wk (c_rank_far x1_15 p1) (And.intro rfl (And.intro rfl (And.intro rfl (And.intro rfl trivial))))) (And.intro rfl ?_))
      exact Exists.intro [] (Exists.intro [] (Exists.intro () (And.intro trivial (And.intro rfl (And.intro ff (And.intro rfl (And.intro rfl (And.intro rfl (And.intro (Eq.symm (aR g1 rfl)) trivial)))))))))
    · skip
      exact Exists.intro [] (Exists.intro [] (Exists.intro () (And.intro trivial (And.intro rfl (And.intro ff (And.intro rfl (And.intro rfl (And.intro rfl (And.intro (Eq.symm (aL g1)) trivial)))))))))
  · skip
    refine And.intro (fun g2 => ?_) (fun g2 => ?_)
    · skip
      replace h := cT g2 h
      refine Exists.intro none ?_
      exact Exists.intro [] (Exists.intro [] (Exists.intro ((w64 (v2_2 + (1:Int))), m1) (And.intro (hl1 (w64 (v2_2 + (1:Int))) (Option.some.inj h).symm) (And.intro (Nat.lt_succ_self m1) (And.intro rfl (And.intro ff (And.intro rfl (And.intro rfl (And.intro rfl trivial)))))))))
    · skip
      replace h := cF g2 h
      replace h := popS h hr1
      refine Exists.intro none ?_
      replace h := Option.some.inj h
      first | subst h | rw [← h]
      exact (And.intro rfl trivial)

theorem c_rank_At (p0 : api_Ranks) (p1 : Int) (r : (Int × Int)) (h : rank_At p0 p1 = some r) : Contract Try.prog 22 [.agg [.int .i64 p0.N, .lst 3 false (List.map enc_api_Entry p0.Entries)], .int .i64 p1] [] (.tup [.int .i64 r.1, .int .i64 r.2]) [] := by
  refine contract_of_vcs tab_ok orders_ok Try.func22 Try.call22 (by kernel_rfl) 0 rfl rfl _ rfl ?_
  delta rank_At at h
  refine Exists.intro none ?_
  refine Exists.intro none ?_
  obtain ⟨y1_1, e1_1, h⟩ := bS h
  refine Exists.intro (CK.plain _ _) (And.intro (Contract.wk (c_rank_Validate p0 y1_1 e1_1) (And.intro rfl (And.intro ff (And.intro rfl trivial)))) (And.intro rfl ?_))
  refine Exists.intro none ?_
  refine And.intro (fun g1 => ?_) (fun g1 => ?_)
  · skip
    replace h := cT g1 h
    refine Exists.intro none ?_
    replace h := Option.some.inj h
    first | subst h | rw [← h]
    exact (And.intro rfl (And.intro rfl trivial))
  · skip
    replace h := cF g1 h
    refine Exists.intro none ?_
    refine Exists.intro none ?_
    refine And.intro (fun g2 => ?_) (fun g2 => ?_)
    · skip
      refine And.intro (fun g3 => ?_) (fun g3 => ?_)
      · skip
        replace h := cT (oR g2 g3) h
        refine Exists.intro none ?_
        replace h := Option.some.inj h
        first | subst h | rw [← h]
        exact (And.intro rfl (And.intro rfl trivial))
      · skip
        replace h := cF (oR g2 g3) h
        refine Exists.intro none ?_
        obtain ⟨y6_5, e6_5, h⟩ := bS h
        obtain ⟨x6_6, e6_6, h⟩ := bS h
        refine Exists.intro (CK.plain _ _) (And.intro (Contract.wk (c_rank_place p0.Entries p1 (0:Int) y6_5 e6_5) (And.intro ff (And.intro rfl (And.intro rfl (And.intro rfl trivial))))) (And.intro rfl ?_))
        refine Exists.intro [.int .i64 x6_6.V, .int .i64 x6_6.Min, .int .i64 x6_6.Max] (And.intro (idx_map enc_api_Entry e6_6) ?_)
        replace h := Option.some.inj h
        first | subst h | rw [← h]
        exact (And.intro rfl (And.intro rfl trivial))
    · skip
      replace h := cT (oL g2) h
      refine Exists.intro none ?_
      replace h := Option.some.inj h
      first | subst h | rw [← h]
      exact (And.intro rfl (And.intro rfl trivial))

theorem c_law21_RankNear (p0 : api_Ranks) (p1 : Int) (r : Bool) (h : law21_RankNear p0 p1 = some r) : Contract Try.prog 5 [.agg [.int .i64 p0.N, .lst 3 false (List.map enc_api_Entry p0.Entries)], .int .i64 p1] [] (.sb r) [] := by
  refine contract_of_vcs tab_ok orders_ok Try.func5 Try.call5 (by kernel_rfl) 0 rfl rfl _ rfl ?_
  delta law21_RankNear at h
  refine Exists.intro none ?_
  refine Exists.intro none ?_
  obtain ⟨y1_5, e1_5, h⟩ := bS h
  refine Exists.intro (some (⟨Unit, fun _ => [(.tmp 1, .av (.int .i64 p1)), (.tmp 2, .av (.ptr 0 0)), (.tmp 22, .av (.sb (((!(law21_few p0)) || (y1_5 != (0:Int))) || (p0.N == (0:Int))))), (.box 0, .box [.int .i64 p0.N, .lst 3 false (List.map enc_api_Entry p0.Entries)])], fun _ => True, fun _ => 0⟩, 1000000)) (And.intro ?_ (fun _ _ => ?_))
  · skip
    refine Exists.intro (CK.plain _ _) (And.intro (Contract.wk (c_law21_few p0) (And.intro rfl (And.intro ff (And.intro rfl trivial)))) (And.intro rfl ?_))
    refine And.intro (fun g1 => ?_) (fun g1 => ?_)
    · skip
      refine Exists.intro (CK.plain _ _) (And.intro (Contract.wk (c_ref21_Validate p0 y1_5 (gdT (nE g1) e1_5)) (And.intro rfl (And.intro ff (And.intro rfl trivial)))) (And.intro rfl ?_))
      refine And.intro (fun g2 => ?_) (fun g2 => ?_)
      · skip
        exact Exists.intro [] (Exists.intro [] (Exists.intro () (And.intro trivial (And.intro rfl (And.intro rfl (And.intro (Eq.symm (oR (oR g1 g2) rfl)) (And.intro rfl (And.intro ff (And.intro rfl trivial)))))))))
      · skip
        exact Exists.intro [] (Exists.intro [] (Exists.intro () (And.intro trivial (And.intro rfl (And.intro rfl (And.intro (Eq.symm (oL (oR g1 g2))) (And.intro rfl (And.intro ff (And.intro rfl trivial)))))))))
    · skip
      exact Exists.intro [] (Exists.intro [] (Exists.intro () (And.intro trivial (And.intro rfl (And.intro rfl (And.intro (Eq.symm (oL (oL g1))) (And.intro rfl (And.intro ff (And.intro rfl trivial)))))))))
  · skip
    refine And.intro (fun g3 => ?_) (fun g3 => ?_)
    · skip
      replace h := cT g3 h
      refine Exists.intro none ?_
      obtain ⟨y2_0, e2_0, h⟩ := bS h
      refine Exists.intro (CK.plain _ _) (And.intro (Contract.wk (c_law21_awake y2_0 e2_0) trivial) (And.intro rfl ?_))
      replace h := Option.some.inj h
      first | subst h | rw [← h]
      exact (And.intro rfl trivial)
    · skip
      replace h := cF g3 h
      refine Exists.intro none ?_
      obtain ⟨y3_3, e3_3, h⟩ := bS h
      refine Exists.intro (CK.plain _ _) (And.intro (Contract.wk (c_made_Mod p1 p0.N y3_3 e3_3) (And.intro rfl (And.intro rfl trivial))) (And.intro rfl ?_))
      refine Exists.intro none ?_
      obtain ⟨y4_2, e4_2, h⟩ := bS h
      refine Exists.intro (CK.plain _ _) (And.intro (Contract.wk (c_rank_At p0 (w64 ((1:Int) + y3_3)) y4_2 e4_2) (And.intro rfl (And.intro ff (And.intro rfl (And.intro rfl trivial))))) (And.intro rfl ?_))
      refine Exists.intro none ?_
      refine And.intro (fun g4 => ?_) (fun g4 => ?_)
      · skip
        replace h := cT g4 h
        refine Exists.intro none ?_
        replace h := Option.some.inj h
        first | subst h | rw [← h]
        exact (And.intro rfl trivial)
      · skip
        replace h := cF g4 h
        refine Exists.intro none ?_
        obtain ⟨y7_1, e7_1, h⟩ := bS h
        refine Exists.intro (CK.plain _ _) (And.intro (Contract.wk (c_rank_Gap p0 y7_1 e7_1) (And.intro rfl (And.intro ff (And.intro rfl trivial)))) (And.intro rfl ?_))
        refine And.intro (by decide) ?_
        refine Exists.intro none ?_
        refine Exists.intro [.int .i64 (p0.Entries.length : Int)] (And.intro (lenS enc_api_Entry p0.Entries) ?_)
        replace h : law21_RankNear_l4 p0 y3_3 y4_2 y7_1 (0:Int) = some r := h
        delta law21_RankNear_l4 at h
        obtain ⟨n1, h⟩ := loopS h
        refine Exists.intro ⟨Int × Nat, fun q => [(.tmp 1, .av (.int .i64 (w64 ((1:Int) + y3_3)))), (.tmp 5, .av (.int .i64 y4_2.1)), (.tmp 7, .av (.int .i64 (w64 (Int.tdiv y7_1 (2:Int))))), (.tmp 41, .av (.lst 3 false (List.map enc_api_Entry p0.Entries))), (.tmp 42, .av (.int .i64 (p0.Entries.length : Int))), (.tmp 43, .av (.int .i64 q.1))], fun q => loopN (fun (s : Int) => law21_RankNear_l4s p0 y3_3 y4_2 y7_1 s) q.2 q.1 = some r, fun q => q.2⟩ (And.intro (Exists.intro [] (Exists.intro [] (Exists.intro ((0:Int), n1) (And.intro h (And.intro rfl (And.intro rfl (And.intro rfl (And.intro rfl (And.intro ff (And.intro rfl (And.intro rfl (And.intro rfl trivial)))))))))))) ?_)
        clear h
        refine fun q h => ?_
        obtain ⟨v4_43, n1⟩ := q
        obtain ⟨m1, x1, hm1, h, hl1, hr1⟩ := loopN_step h
        replace hm1 : n1 = m1 + 1 := hm1
        subst hm1
        replace h : law21_RankNear_l4s p0 y3_3 y4_2 y7_1 v4_43 = some x1 := h
        delta law21_RankNear_l4s at h
        refine Exists.intro none ?_
        refine And.intro (fun g5 => ?_) (fun g5 => ?_)
        · skip
          replace h := cT g5 h
          refine Exists.intro none ?_
          obtain ⟨x10_0, e10_0, h⟩ := bS h
          refine Exists.intro [.int .i64 x10_0.V, .int .i64 x10_0.Min, .int .i64 x10_0.Max] (And.intro (idx_map enc_api_Entry e10_0) ?_)
          refine Exists.intro none ?_
          refine Exists.intro (some (⟨Unit, fun _ => [(.tmp 1, .av (.int .i64 (w64 ((1:Int) + y3_3)))), (.tmp 5, .av (.int .i64 y4_2.1)), (.tmp 7, .av (.int .i64 (w64 (Int.tdiv y7_1 (2:Int))))), (.tmp 41, .av (.lst 3 false (List.map enc_api_Entry p0.Entries))), (.tmp 42, .av (.int .i64 (p0.Entries.length : Int))), (.tmp 43, .av (.int .i64 v4_43)), (.tmp 66, .av (.sb (((x10_0.V == y4_2.1) && (decide (x10_0.Min ≥ (w64 ((w64 ((1:Int) + y3_3)) - (w64 (Int.tdiv y7_1 (2:Int)))))))) && (decide (x10_0.Max ≤ (w64 ((w64 ((1:Int) + y3_3)) + (w64 (Int.tdiv y7_1 (2:Int))))))))))], fun _ => True, fun _ => 0⟩, 2000000)) (And.intro ?_ (fun _ _ => ?_))
          · skip
            refine And.intro (fun g6 => ?_) (fun g6 => ?_)
            · skip
              refine And.intro (fun g7 => ?_) (fun g7 => ?_)
              · skip
                exact Exists.intro [] (Exists.intro [] (Exists.intro () (And.intro trivial (And.intro rfl (And.intro rfl (And.intro rfl (And.intro rfl (And.intro ff (And.intro rfl (And.intro rfl (And.intro rfl (And.intro (Eq.symm (aR (aR g6 g7) rfl)) trivial))))))))))))
              · skip
                exact Exists.intro [] (Exists.intro [] (Exists.intro () (And.intro trivial (And.intro rfl (And.intro rfl (And.intro rfl (And.intro rfl (And.intro ff (And.intro rfl (And.intro rfl (And.intro rfl (And.intro (Eq.symm (aL (aR g6 g7))) trivial))))))))))))
            · skip
              exact Exists.intro [] (Exists.intro [] (Exists.intro () (And.intro trivial (And.intro rfl (And.intro rfl (And.intro rfl (And.intro rfl (And.intro ff (And.intro rfl (And.intro rfl (And.intro rfl (And.intro (Eq.symm (aL (aL g6))) trivial))))))))))))
          · skip
            refine And.intro (fun g8 => ?_) (fun g8 => ?_)
            · skip
              replace h := cT g8 h
              refine Exists.intro none ?_
              obtain ⟨y12_0, e12_0, h⟩ := bS h
              refine Exists.intro (CK.plain _ _) (And.intro (Contract.wk (c_law21_awake y12_0 e12_0) trivial) (And.intro rfl ?_))
              replace h := retS h hr1
              first | subst h | rw [← h]
              exact (And.intro rfl trivial)
            · skip
              replace h := cF g8 h
              refine Exists.intro none ?_
              exact Exists.intro [] (Exists.intro [] (Exists.intro ((w64 (v4_43 + (1:Int))), m1) (And.intro (hl1 (w64 (v4_43 + (1:Int))) (Option.some.inj h).symm) (And.intro (Nat.lt_succ_self m1) (And.intro rfl (And.intro rfl (And.intro rfl (And.intro rfl (And.intro ff (And.intro rfl (And.intro rfl (And.intro rfl trivial))))))))))))
        · skip
          replace h := cF g5 h
          replace h := popS h hr1
          refine Exists.intro none ?_
          replace h := Option.some.inj h
          first | subst h | rw [← h]
          exact (And.intro rfl trivial)

end Go.Proofs.Ytpclnmpmammlfaa
