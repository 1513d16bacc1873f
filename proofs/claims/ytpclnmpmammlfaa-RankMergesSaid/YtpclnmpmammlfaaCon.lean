/- The contracts: each function of the program does what its function on plain data says. Made by program. -/
import Derived.Test.YtpclnmpmammlfaaTab
import Derived.Test.YtpclnmpmammlfaaWin
import Derived.Test.YtpclnmpmammlfaaWalk
import Derived.Test.YtpclnmpmammlfaaSrt
set_option linter.unusedVariables false
set_option linter.unusedSimpArgs false
set_option linter.unnecessarySimpa false
set_option maxHeartbeats 4000000
namespace Go.Proofs.Ytpclnmpmammlfaa
open Go.Vc Go.Dec Go.Win

theorem c_rank_Of (p0 : (List Int)) (r : (api_Ranks × Int)) (h : rank_Of p0 = some r) : Contract Try.prog 13 [.lst 1 false (List.map (eI .i64) p0)] [] (.tup [.agg [.int .i64 r.1.N, .lst 3 false (List.map enc_api_Entry r.1.Entries)], .int .i64 r.2]) [] := by
  refine contract_of_vcs tab_ok orders_ok Try.func13 Try.call13 (by kernel_rfl) 0 rfl rfl _ rfl ?_
  delta rank_Of at h
  refine Exists.intro none ?_
  refine Exists.intro none ?_
  refine Exists.intro [.int .i64 (p0.length : Int)] (And.intro (lenS (eI .i64) p0) ?_)
  refine And.intro (fun g1 => ?_) (fun g1 => ?_)
  · skip
    replace h := cT g1 h
    refine Exists.intro none ?_
    replace h := Option.some.inj h
    first | subst h | rw [← h]
    exact (And.intro rfl (And.intro rfl (And.intro rfl trivial)))
  · skip
    replace h := cF g1 h
    refine Exists.intro none ?_
    obtain ⟨k3_1, h⟩ := ckS h
    refine Exists.intro (CK.fresh _ _ _) (And.intro (clone_int false p0 (of_decide_eq_true k3_1)) (And.intro rfl ?_))
    refine Exists.intro none ?_
    obtain ⟨k4_1, h⟩ := ckS h
    refine Exists.intro (CK.sorts 513 2 p0) (And.intro sorts_int (And.intro (And.intro rfl (And.intro rfl (of_decide_eq_true k4_1))) ?_))
    refine Exists.intro none ?_
    refine Exists.intro [.int .i64 ((sortZ p0).length : Int)] (And.intro (lenS (eI .i64) (sortZ p0)) ?_)
    refine Exists.intro none ?_
    refine Exists.intro [.int .i64 ((sortZ p0).length : Int)] (And.intro (lenS (eI .i64) (sortZ p0)) ?_)
    replace h : rank_Of_l3 p0 (0:Int) ([] : List api_Entry) = some r := h
    delta rank_Of_l3 at h
    obtain ⟨n1, h⟩ := loopS h
    refine Exists.intro ⟨(Int × (List api_Entry)) × Nat, fun q => [(.tmp 2, .av (.ptr 0 0)), (.tmp 5, .av (.ptr 1027 0)), (.tmp 19, .av (.own 513)), (.tmp 20, .av (.int .i64 ((sortZ p0).length : Int))), (.tmp 21, .av (.int .i64 q.1.1)), (.box 0, .box [.int .i64 (0:Int), .nilS]), (.box 1027, .box [.int .i64 ((sortZ p0).length : Int), .own 1535]), (.tok 513, .tok 2 1 (List.map (eI .i64) (sortZ p0))), (.tok 1535, .tok 39 3 (List.map enc_api_Entry q.1.2))], fun q => loopN (fun (s : (Int × (List api_Entry))) => rank_Of_l3s p0 s.1 s.2) q.2 q.1 = some r, fun q => q.2⟩ (And.intro (Exists.intro [(1535, none)] (Exists.intro [] (Exists.intro (((0:Int), ([] : List api_Entry)), n1) (And.intro h (And.intro rfl (And.intro rfl (And.intro rfl (And.intro rfl (And.intro rfl (And.intro rfl (And.intro rfl trivial))))))))))) ?_)
    clear h
    refine fun q h => ?_
    obtain ⟨⟨v3_21, v3_b5x3_1⟩, n1⟩ := q
    obtain ⟨m1, x1, hm1, h, hl1, hr1⟩ := loopN_step h
    replace hm1 : n1 = m1 + 1 := hm1
    subst hm1
    replace h : rank_Of_l3s p0 v3_21 v3_b5x3_1 = some x1 := h
    delta rank_Of_l3s at h
    refine Exists.intro none ?_
    refine And.intro (fun g2 => ?_) (fun g2 => ?_)
    · skip
      replace h := cT g2 h
      refine Exists.intro none ?_
      obtain ⟨x8_1, e8_1, h⟩ := bS h
      obtain ⟨x8_2, e8_2, h⟩ := bS h
      refine And.intro (idx_lt (eI .i64) e8_1) ?_
      refine Exists.intro [.int .i64 x8_2] (And.intro (idx_elt (eI .i64) e8_2) ?_)
      refine Exists.intro none ?_
      obtain ⟨k9_9, h⟩ := ckS h
      refine And.intro (by have hh := (of_decide_eq_true k9_9); (try simp only [encZ, fixRows_length, List.length_map, List.length_append, List.length_take, List.length_drop, List.length_set, List.length_replicate, List.length_cons, List.length_nil] at hh); (try simp only [encZ, fixRows_length, List.length_map, List.length_append, List.length_take, List.length_drop, List.length_set, List.length_replicate, List.length_cons, List.length_nil]); (try simp only [w64, wu64] at hh); (try simp only [w64, wu64]); omega) ?_
      refine Exists.intro none ?_
      exact Exists.intro [(1535, some 2057)] (Exists.intro [] (Exists.intro (((w64 (v3_21 + (1:Int))), (v3_b5x3_1 ++ [(api_Entry.mk x8_2 (w64 (v3_21 + (1:Int))) (w64 (v3_21 + (1:Int))))])), m1) (And.intro (hl1 ((w64 (v3_21 + (1:Int))), (v3_b5x3_1 ++ [(api_Entry.mk x8_2 (w64 (v3_21 + (1:Int))) (w64 (v3_21 + (1:Int))))])) (Option.some.inj h).symm) (And.intro (Nat.lt_succ_self m1) (And.intro rfl (And.intro rfl (And.intro rfl (And.intro rfl (And.intro rfl (And.intro rfl (And.intro (by first | rfl | (simp only [encZ, List.map_append, List.map_cons, List.map_nil, List.map_take, List.map_drop, List.map_set, List.map_replicate]; done) | (simp only [encZ, List.map_append, List.map_cons, List.map_nil, List.map_take, List.map_drop, List.map_set, List.map_replicate]; rfl) | (simp only [encZ, List.map_append, List.map_cons, List.map_nil, List.map_take, List.map_drop, List.map_set, List.map_replicate, eL, enc_api_Ranks, enc_api_Recent, enc_api_Answer]; done) | (simp only [encZ, List.map_append, List.map_cons, List.map_nil, List.map_take, List.map_drop, List.map_set, List.map_replicate, eL, enc_api_Ranks, enc_api_Recent, enc_api_Answer]; rfl)) trivial)))))))))))
    · skip
      replace h := cF g2 h
      replace h := popS h hr1
      refine Exists.intro none ?_
      replace h := Option.some.inj h
      first | subst h | rw [← h]
      exact (And.intro rfl (And.intro ff (And.intro rfl (And.intro rfl trivial))))

theorem c_law21_awake (r : Bool) (h : law21_awake = some r) : Contract Try.prog 12 [] [] (.sb r) [] := by
  refine contract_of_vcs tab_ok orders_ok Try.func12 Try.call12 (by kernel_rfl) 0 rfl rfl _ rfl ?_
  delta law21_awake at h
  refine Exists.intro none ?_
  refine Exists.intro none ?_
  obtain ⟨y1_1, e1_1, h⟩ := bS h
  refine Exists.intro (CK.plain _ _) (And.intro (Contract.wk (c_rank_Of [(3:Int), (1:Int)] y1_1 e1_1) (And.intro ff (And.intro (by first | rfl | (simp only [encZ, List.map_append, List.map_cons, List.map_nil, List.map_take, List.map_drop, List.map_set, List.map_replicate]; done) | (simp only [encZ, List.map_append, List.map_cons, List.map_nil, List.map_take, List.map_drop, List.map_set, List.map_replicate]; rfl) | (simp only [encZ, List.map_append, List.map_cons, List.map_nil, List.map_take, List.map_drop, List.map_set, List.map_replicate, eL, enc_api_Ranks, enc_api_Recent, enc_api_Answer]; done) | (simp only [encZ, List.map_append, List.map_cons, List.map_nil, List.map_take, List.map_drop, List.map_set, List.map_replicate, eL, enc_api_Ranks, enc_api_Recent, enc_api_Answer]; rfl)) trivial))) (And.intro rfl ?_))
  refine Exists.intro none ?_
  obtain ⟨x2_16, e2_16, h⟩ := bS h
  refine Exists.intro none ?_
  refine And.intro (fun g1 => ?_) (fun g1 => ?_)
  · skip
    refine And.intro (fun g2 => ?_) (fun g2 => ?_)
    · skip
      refine Exists.intro [.int .i64 (y1_1.1.Entries.length : Int)] (And.intro (lenS enc_api_Entry y1_1.1.Entries) ?_)
      refine And.intro (fun g3 => ?_) (fun g3 => ?_)
      · skip
        refine Exists.intro [.int .i64 x2_16.V, .int .i64 x2_16.Min, .int .i64 x2_16.Max] (And.intro (idx_map enc_api_Entry (gdT (aR (aR g1 g2) g3) e2_16)) ?_)
        replace h := Option.some.inj h
        first | subst h | rw [← h]
        exact (And.intro (Eq.symm (aR (aR (aR g1 g2) g3) rfl)) trivial)
      · skip
        replace h := Option.some.inj h
        first | subst h | rw [← h]
        exact (And.intro (Eq.symm (aL (aR (aR g1 g2) g3))) trivial)
    · skip
      replace h := Option.some.inj h
      first | subst h | rw [← h]
      exact (And.intro (Eq.symm (aL (aL (aR g1 g2)))) trivial)
  · skip
    replace h := Option.some.inj h
    first | subst h | rw [← h]
    exact (And.intro (Eq.symm (aL (aL (aL g1)))) trivial)

theorem c_ref21_Same (p0 : api_Ranks) (p1 : api_Ranks) (r : Bool) (h : ref21_Same p0 p1 = some r) : Contract Try.prog 15 [.agg [.int .i64 p0.N, .lst 3 false (List.map enc_api_Entry p0.Entries)], .agg [.int .i64 p1.N, .lst 3 false (List.map enc_api_Entry p1.Entries)]] [] (.sb r) [] := by
  refine contract_of_vcs tab_ok orders_ok Try.func15 Try.call15 (by kernel_rfl) 0 rfl rfl _ rfl ?_
  delta ref21_Same at h
  refine Exists.intro none ?_
  refine Exists.intro none ?_
  refine Exists.intro none ?_
  refine And.intro (fun g1 => ?_) (fun g1 => ?_)
  · skip
    refine Exists.intro [.int .i64 (p0.Entries.length : Int)] (And.intro (lenS enc_api_Entry p0.Entries) ?_)
    refine Exists.intro [.int .i64 (p1.Entries.length : Int)] (And.intro (lenS enc_api_Entry p1.Entries) ?_)
    refine And.intro (fun g2 => ?_) (fun g2 => ?_)
    · skip
      replace h := cT (oR g1 g2) h
      refine Exists.intro none ?_
      replace h := Option.some.inj h
      first | subst h | rw [← h]
      exact (And.intro rfl trivial)
    · skip
      replace h := cF (oR g1 g2) h
      refine Exists.intro none ?_
      refine Exists.intro [.int .i64 (p0.Entries.length : Int)] (And.intro (lenS enc_api_Entry p0.Entries) ?_)
      replace h : ref21_Same_l3 p0 p1 (0:Int) = some r := h
      delta ref21_Same_l3 at h
      obtain ⟨n1, h⟩ := loopS h
      refine Exists.intro ⟨Int × Nat, fun q => [(.tmp 2, .av (.ptr 0 0)), (.tmp 3, .av (.ptr 1 0)), (.tmp 22, .av (.int .i64 (p0.Entries.length : Int))), (.tmp 23, .av (.int .i64 q.1)), (.box 0, .box [.int .i64 p0.N, .lst 3 false (List.map enc_api_Entry p0.Entries)]), (.box 1, .box [.int .i64 p1.N, .lst 3 false (List.map enc_api_Entry p1.Entries)])], fun q => loopN (fun (s : Int) => ref21_Same_l3s p0 p1 s) q.2 q.1 = some r, fun q => q.2⟩ (And.intro (Exists.intro [] (Exists.intro [] (Exists.intro ((0:Int), n1) (And.intro h (And.intro rfl (And.intro rfl (And.intro rfl (And.intro rfl (And.intro ff (And.intro rfl (And.intro rfl (And.intro ff (And.intro rfl trivial))))))))))))) ?_)
      clear h
      refine fun q h => ?_
      obtain ⟨v3_23, n1⟩ := q
      obtain ⟨m1, x1, hm1, h, hl1, hr1⟩ := loopN_step h
      replace hm1 : n1 = m1 + 1 := hm1
      subst hm1
      replace h : ref21_Same_l3s p0 p1 v3_23 = some x1 := h
      delta ref21_Same_l3s at h
      refine Exists.intro none ?_
      refine And.intro (fun g3 => ?_) (fun g3 => ?_)
      · skip
        replace h := cT g3 h
        refine Exists.intro none ?_
        refine Exists.intro none ?_
        obtain ⟨x6_3, e6_3, h⟩ := bS h
        obtain ⟨x6_8, e6_8, h⟩ := bS h
        refine Exists.intro [.int .i64 x6_3.V, .int .i64 x6_3.Min, .int .i64 x6_3.Max] (And.intro (idx_map enc_api_Entry e6_3) ?_)
        refine Exists.intro [.int .i64 x6_8.V, .int .i64 x6_8.Min, .int .i64 x6_8.Max] (And.intro (idx_map enc_api_Entry e6_8) ?_)
        refine And.intro (fun g4 => ?_) (fun g4 => ?_)
        · skip
          replace h := cT g4 h
          refine Exists.intro none ?_
          replace h := retS h hr1
          first | subst h | rw [← h]
          exact (And.intro rfl trivial)
        · skip
          replace h := cF g4 h
          refine Exists.intro none ?_
          exact Exists.intro [] (Exists.intro [] (Exists.intro ((w64 (v3_23 + (1:Int))), m1) (And.intro (hl1 (w64 (v3_23 + (1:Int))) (Option.some.inj h).symm) (And.intro (Nat.lt_succ_self m1) (And.intro rfl (And.intro rfl (And.intro rfl (And.intro rfl (And.intro ff (And.intro rfl (And.intro rfl (And.intro ff (And.intro rfl trivial)))))))))))))
      · skip
        replace h := cF g3 h
        replace h := popS h hr1
        refine Exists.intro none ?_
        replace h := Option.some.inj h
        first | subst h | rw [← h]
        exact (And.intro rfl trivial)
  · skip
    replace h := cT (oL g1) h
    refine Exists.intro none ?_
    replace h := Option.some.inj h
    first | subst h | rw [← h]
    exact (And.intro rfl trivial)

theorem c_rank_Validate (p0 : api_Ranks) (r : Int) (h : rank_Validate p0 = some r) : Contract Try.prog 16 [.agg [.int .i64 p0.N, .lst 3 false (List.map enc_api_Entry p0.Entries)]] [] (.int .i64 r) [] := by
  refine contract_of_vcs tab_ok orders_ok Try.func16 Try.call16 (by kernel_rfl) 0 rfl rfl _ rfl ?_
  delta rank_Validate at h
  refine Exists.intro none ?_
  refine Exists.intro none ?_
  refine Exists.intro [.int .i64 (p0.Entries.length : Int)] (And.intro (lenS enc_api_Entry p0.Entries) ?_)
  refine Exists.intro none ?_
  refine Exists.intro none ?_
  refine And.intro (fun g1 => ?_) (fun g1 => ?_)
  · skip
    refine And.intro (fun g2 => ?_) (fun g2 => ?_)
    · skip
      refine And.intro (fun g3 => ?_) (fun g3 => ?_)
      · skip
        replace h := cT (oR (oR g1 g2) g3) h
        refine Exists.intro none ?_
        replace h := Option.some.inj h
        first | subst h | rw [← h]
        exact (And.intro rfl trivial)
      · skip
        replace h := cF (oR (oR g1 g2) g3) h
        refine Exists.intro none ?_
        refine Exists.intro [.int .i64 (p0.Entries.length : Int)] (And.intro (lenS enc_api_Entry p0.Entries) ?_)
        replace h : rank_Validate_l3 p0 (0:Int) = some r := h
        delta rank_Validate_l3 at h
        obtain ⟨n1, h⟩ := loopS h
        refine Exists.intro ⟨Int × Nat, fun q => [(.tmp 1, .av (.ptr 0 0)), (.tmp 3, .av (.int .i64 (p0.Entries.length : Int))), (.tmp 27, .av (.lst 3 false (List.map enc_api_Entry p0.Entries))), (.tmp 28, .av (.int .i64 (p0.Entries.length : Int))), (.tmp 29, .av (.int .i64 q.1)), (.box 0, .box [.int .i64 p0.N, .lst 3 false (List.map enc_api_Entry p0.Entries)])], fun q => loopN (fun (s : Int) => rank_Validate_l3s p0 s) q.2 q.1 = some r, fun q => q.2⟩ (And.intro (Exists.intro [] (Exists.intro [] (Exists.intro ((0:Int), n1) (And.intro h (And.intro rfl (And.intro rfl (And.intro ff (And.intro rfl (And.intro rfl (And.intro rfl (And.intro rfl (And.intro ff (And.intro rfl trivial))))))))))))) ?_)
        clear h
        refine fun q h => ?_
        obtain ⟨v3_29, n1⟩ := q
        obtain ⟨m1, x1, hm1, h, hl1, hr1⟩ := loopN_step h
        replace hm1 : n1 = m1 + 1 := hm1
        subst hm1
        replace h : rank_Validate_l3s p0 v3_29 = some x1 := h
        delta rank_Validate_l3s at h
        refine Exists.intro none ?_
        refine And.intro (fun g4 => ?_) (fun g4 => ?_)
        · skip
          replace h := cT g4 h
          refine Exists.intro none ?_
          refine Exists.intro none ?_
          obtain ⟨x6_1, e6_1, h⟩ := bS h
          refine Exists.intro [.int .i64 x6_1.V, .int .i64 x6_1.Min, .int .i64 x6_1.Max] (And.intro (idx_map enc_api_Entry e6_1) ?_)
          refine Exists.intro none ?_
          refine Exists.intro none ?_
          refine And.intro (fun g5 => ?_) (fun g5 => ?_)
          · skip
            refine And.intro (fun g6 => ?_) (fun g6 => ?_)
            · skip
              refine And.intro (fun g7 => ?_) (fun g7 => ?_)
              · skip
                replace h := cT (oR (oR g5 g6) g7) h
                refine Exists.intro none ?_
                replace h := retS h hr1
                first | subst h | rw [← h]
                exact (And.intro rfl trivial)
              · skip
                replace h := cF (oR (oR g5 g6) g7) h
                refine Exists.intro none ?_
                refine Exists.intro none ?_
                refine And.intro (fun g8 => ?_) (fun g8 => ?_)
                · skip
                  replace h := cT g8 h
                  refine Exists.intro none ?_
                  obtain ⟨x10_4, e10_4, h⟩ := bS h
                  refine Exists.intro [.int .i64 x10_4.V, .int .i64 x10_4.Min, .int .i64 x10_4.Max] (And.intro (idx_map enc_api_Entry e10_4) ?_)
                  refine Exists.intro none ?_
                  refine Exists.intro none ?_
                  refine And.intro (fun g9 => ?_) (fun g9 => ?_)
                  · skip
                    refine And.intro (fun g10 => ?_) (fun g10 => ?_)
                    · skip
                      refine And.intro (fun g11 => ?_) (fun g11 => ?_)
                      · skip
                        replace h := cT (oR (oR g9 g10) g11) h
                        refine Exists.intro none ?_
                        replace h := retS h hr1
                        first | subst h | rw [← h]
                        exact (And.intro rfl trivial)
                      · skip
                        replace h := cF (oR (oR g9 g10) g11) h
                        refine Exists.intro none ?_
                        exact Exists.intro [] (Exists.intro [] (Exists.intro ((w64 (v3_29 + (1:Int))), m1) (And.intro (hl1 (w64 (v3_29 + (1:Int))) (Option.some.inj h).symm) (And.intro (Nat.lt_succ_self m1) (And.intro rfl (And.intro rfl (And.intro ff (And.intro rfl (And.intro rfl (And.intro rfl (And.intro rfl (And.intro ff (And.intro rfl trivial)))))))))))))
                    · skip
                      replace h := cT (oL (oR g9 g10)) h
                      refine Exists.intro none ?_
                      replace h := retS h hr1
                      first | subst h | rw [← h]
                      exact (And.intro rfl trivial)
                  · skip
                    replace h := cT (oL (oL g9)) h
                    refine Exists.intro none ?_
                    replace h := retS h hr1
                    first | subst h | rw [← h]
                    exact (And.intro rfl trivial)
                · skip
                  replace h := cF g8 h
                  refine Exists.intro none ?_
                  exact Exists.intro [] (Exists.intro [] (Exists.intro ((w64 (v3_29 + (1:Int))), m1) (And.intro (hl1 (w64 (v3_29 + (1:Int))) (Option.some.inj h).symm) (And.intro (Nat.lt_succ_self m1) (And.intro rfl (And.intro rfl (And.intro ff (And.intro rfl (And.intro rfl (And.intro rfl (And.intro rfl (And.intro ff (And.intro rfl trivial)))))))))))))
            · skip
              replace h := cT (oL (oR g5 g6)) h
              refine Exists.intro none ?_
              replace h := retS h hr1
              first | subst h | rw [← h]
              exact (And.intro rfl trivial)
          · skip
            replace h := cT (oL (oL g5)) h
            refine Exists.intro none ?_
            replace h := retS h hr1
            first | subst h | rw [← h]
            exact (And.intro rfl trivial)
        · skip
          replace h := cF g4 h
          replace h := popS h hr1
          refine Exists.intro none ?_
          obtain ⟨x14_5, e14_5, h⟩ := bS h
          obtain ⟨x14_14, e14_14, h⟩ := bS h
          refine Exists.intro (some (⟨Unit, fun _ => [(.tmp 100, .av (.sb ((decide ((p0.Entries.length : Int) > (0:Int))) && ((x14_5.Max != (1:Int)) || (x14_14.Min != p0.N)))))], fun _ => True, fun _ => 0⟩, 1000000)) (And.intro ?_ (fun _ _ => ?_))
          · skip
            refine And.intro (fun g12 => ?_) (fun g12 => ?_)
            · skip
              refine Exists.intro [.int .i64 x14_5.V, .int .i64 x14_5.Min, .int .i64 x14_5.Max] (And.intro (idx_map enc_api_Entry (gdT g12 e14_5)) ?_)
              refine And.intro (fun g13 => ?_) (fun g13 => ?_)
              · skip
                refine Exists.intro [.int .i64 x14_14.V, .int .i64 x14_14.Min, .int .i64 x14_14.Max] (And.intro (idx_map enc_api_Entry (gdT (aR g12 (nE g13)) e14_14)) ?_)
                exact Exists.intro [] (Exists.intro [] (Exists.intro () (And.intro trivial (And.intro rfl (And.intro (Eq.symm (aR g12 (oR g13 rfl))) trivial)))))
              · skip
                exact Exists.intro [] (Exists.intro [] (Exists.intro () (And.intro trivial (And.intro rfl (And.intro (Eq.symm (aR g12 (oL g13))) trivial)))))
            · skip
              exact Exists.intro [] (Exists.intro [] (Exists.intro () (And.intro trivial (And.intro rfl (And.intro (Eq.symm (aL g12)) trivial)))))
          · skip
            refine And.intro (fun g14 => ?_) (fun g14 => ?_)
            · skip
              replace h := cT g14 h
              refine Exists.intro none ?_
              replace h := Option.some.inj h
              first | subst h | rw [← h]
              exact (And.intro rfl trivial)
            · skip
              replace h := cF g14 h
              refine Exists.intro none ?_
              replace h := Option.some.inj h
              first | subst h | rw [← h]
              exact (And.intro rfl trivial)
    · skip
      replace h := cT (oL (oR g1 g2)) h
      refine Exists.intro none ?_
      replace h := Option.some.inj h
      first | subst h | rw [← h]
      exact (And.intro rfl trivial)
  · skip
    replace h := cT (oL (oL g1)) h
    refine Exists.intro none ?_
    replace h := Option.some.inj h
    first | subst h | rw [← h]
    exact (And.intro rfl trivial)

theorem c_rank_Gap (p0 : api_Ranks) (r : Int) (h : rank_Gap p0 = some r) : Contract Try.prog 17 [.agg [.int .i64 p0.N, .lst 3 false (List.map enc_api_Entry p0.Entries)]] [] (.int .i64 r) [] := by
  refine contract_of_vcs tab_ok orders_ok Try.func17 Try.call17 (by kernel_rfl) 0 rfl rfl _ rfl ?_
  delta rank_Gap at h
  refine Exists.intro none ?_
  refine Exists.intro none ?_
  obtain ⟨y1_1, e1_1, h⟩ := bS h
  refine Exists.intro none ?_
  refine Exists.intro (CK.plain _ _) (And.intro (Contract.wk (c_rank_Validate p0 y1_1 e1_1) (And.intro rfl (And.intro ff (And.intro rfl trivial)))) (And.intro rfl ?_))
  refine And.intro (fun g1 => ?_) (fun g1 => ?_)
  · skip
    refine Exists.intro [.int .i64 (p0.Entries.length : Int)] (And.intro (lenS enc_api_Entry p0.Entries) ?_)
    refine And.intro (fun g2 => ?_) (fun g2 => ?_)
    · skip
      replace h := cT (oR g1 g2) h
      refine Exists.intro none ?_
      replace h := Option.some.inj h
      first | subst h | rw [← h]
      exact (And.intro rfl trivial)
    · skip
      replace h := cF (oR g1 g2) h
      refine Exists.intro none ?_
      refine Exists.intro none ?_
      replace h : rank_Gap_l3 p0 (1:Int) (1:Int) = some r := h
      delta rank_Gap_l3 at h
      obtain ⟨n1, h⟩ := loopS h
      refine Exists.intro ⟨(Int × Int) × Nat, fun q => [(.tmp 1, .av (.ptr 0 0)), (.tmp 3, .av (.int .i64 q.1.1)), (.tmp 4, .av (.int .i64 q.1.2)), (.box 0, .box [.int .i64 p0.N, .lst 3 false (List.map enc_api_Entry p0.Entries)])], fun q => loopN (fun (s : (Int × Int)) => rank_Gap_l3s p0 s.1 s.2) q.2 q.1 = some r, fun q => q.2⟩ (And.intro (Exists.intro [] (Exists.intro [] (Exists.intro (((1:Int), (1:Int)), n1) (And.intro h (And.intro rfl (And.intro rfl (And.intro rfl (And.intro rfl (And.intro ff (And.intro rfl trivial)))))))))) ?_)
      clear h
      refine fun q h => ?_
      obtain ⟨⟨v3_3, v3_4⟩, n1⟩ := q
      obtain ⟨m1, x1, hm1, h, hl1, hr1⟩ := loopN_step h
      replace hm1 : n1 = m1 + 1 := hm1
      subst hm1
      replace h : rank_Gap_l3s p0 v3_3 v3_4 = some x1 := h
      delta rank_Gap_l3s at h
      refine Exists.intro none ?_
      refine Exists.intro [.int .i64 (p0.Entries.length : Int)] (And.intro (lenS enc_api_Entry p0.Entries) ?_)
      refine And.intro (fun g3 => ?_) (fun g3 => ?_)
      · skip
        replace h := cT g3 h
        refine Exists.intro none ?_
        obtain ⟨x7_4, e7_4, h⟩ := bS h
        obtain ⟨x7_11, e7_11, h⟩ := bS h
        refine Exists.intro [.int .i64 x7_4.V, .int .i64 x7_4.Min, .int .i64 x7_4.Max] (And.intro (idx_map enc_api_Entry e7_4) ?_)
        refine Exists.intro [.int .i64 x7_11.V, .int .i64 x7_11.Min, .int .i64 x7_11.Max] (And.intro (idx_map enc_api_Entry e7_11) ?_)
        refine Exists.intro none ?_
        exact Exists.intro [] (Exists.intro [] (Exists.intro (((imax v3_3 (w64 (x7_4.Max - x7_11.Min))), (w64 (v3_4 + (1:Int)))), m1) (And.intro (hl1 ((imax v3_3 (w64 (x7_4.Max - x7_11.Min))), (w64 (v3_4 + (1:Int)))) (Option.some.inj h).symm) (And.intro (Nat.lt_succ_self m1) (And.intro rfl (And.intro rfl (And.intro rfl (And.intro rfl (And.intro ff (And.intro rfl trivial))))))))))
      · skip
        replace h := cF g3 h
        replace h := popS h hr1
        refine Exists.intro none ?_
        replace h := Option.some.inj h
        first | subst h | rw [← h]
        exact (And.intro rfl trivial)
  · skip
    replace h := cT (oL g1) h
    refine Exists.intro none ?_
    replace h := Option.some.inj h
    first | subst h | rw [← h]
    exact (And.intro rfl trivial)

theorem c_law21_few' (p0 : api_Ranks) (r : Bool) (h : law21_few p0 = r) : Contract Try.prog 18 [.agg [.int .i64 p0.N, .lst 3 false (List.map enc_api_Entry p0.Entries)]] [] (.sb r) [] := by
  refine contract_of_vcs tab_ok orders_ok Try.func18 Try.call18 (by kernel_rfl) 0 rfl rfl _ rfl ?_
  delta law21_few at h
  refine Exists.intro none ?_
  refine Exists.intro none ?_
  refine Exists.intro [.int .i64 (p0.Entries.length : Int)] (And.intro (lenS enc_api_Entry p0.Entries) ?_)
  first | subst h | rw [← h]
  exact (And.intro rfl trivial)
theorem c_law21_few (p0 : api_Ranks) : Contract Try.prog 18 [.agg [.int .i64 p0.N, .lst 3 false (List.map enc_api_Entry p0.Entries)]] [] (.sb (law21_few p0)) [] := c_law21_few' p0 (law21_few p0) rfl

theorem c_ref21_Validate (p0 : api_Ranks) (r : Int) (h : ref21_Validate p0 = some r) : Contract Try.prog 19 [.agg [.int .i64 p0.N, .lst 3 false (List.map enc_api_Entry p0.Entries)]] [] (.int .i64 r) [] := by
  refine contract_of_vcs tab_ok orders_ok Try.func19 Try.call19 (by kernel_rfl) 0 rfl rfl _ rfl ?_
  delta ref21_Validate at h
  refine Exists.intro none ?_
  refine Exists.intro none ?_
  refine Exists.intro none ?_
  refine And.intro (fun g1 => ?_) (fun g1 => ?_)
  · skip
    refine And.intro (fun g2 => ?_) (fun g2 => ?_)
    · skip
      refine Exists.intro [.int .i64 (p0.Entries.length : Int)] (And.intro (lenS enc_api_Entry p0.Entries) ?_)
      refine And.intro (fun g3 => ?_) (fun g3 => ?_)
      · skip
        replace h := cT (oR (oR g1 g2) g3) h
        refine Exists.intro none ?_
        replace h := Option.some.inj h
        first | subst h | rw [← h]
        exact (And.intro rfl trivial)
      · skip
        replace h := cF (oR (oR g1 g2) g3) h
        refine Exists.intro none ?_
        refine Exists.intro [.int .i64 (p0.Entries.length : Int)] (And.intro (lenS enc_api_Entry p0.Entries) ?_)
        replace h : ref21_Validate_l3 p0 (0:Int) = some r := h
        delta ref21_Validate_l3 at h
        obtain ⟨n1, h⟩ := loopS h
        refine Exists.intro ⟨Int × Nat, fun q => [(.tmp 1, .av (.ptr 0 0)), (.tmp 25, .av (.lst 3 false (List.map enc_api_Entry p0.Entries))), (.tmp 26, .av (.int .i64 (p0.Entries.length : Int))), (.tmp 27, .av (.int .i64 q.1)), (.box 0, .box [.int .i64 p0.N, .lst 3 false (List.map enc_api_Entry p0.Entries)])], fun q => loopN (fun (s : Int) => ref21_Validate_l3s p0 s) q.2 q.1 = some r, fun q => q.2⟩ (And.intro (Exists.intro [] (Exists.intro [] (Exists.intro ((0:Int), n1) (And.intro h (And.intro rfl (And.intro ff (And.intro rfl (And.intro rfl (And.intro rfl (And.intro rfl (And.intro ff (And.intro rfl trivial)))))))))))) ?_)
        clear h
        refine fun q h => ?_
        obtain ⟨v3_27, n1⟩ := q
        obtain ⟨m1, x1, hm1, h, hl1, hr1⟩ := loopN_step h
        replace hm1 : n1 = m1 + 1 := hm1
        subst hm1
        replace h : ref21_Validate_l3s p0 v3_27 = some x1 := h
        delta ref21_Validate_l3s at h
        refine Exists.intro none ?_
        refine And.intro (fun g4 => ?_) (fun g4 => ?_)
        · skip
          replace h := cT g4 h
          refine Exists.intro none ?_
          refine Exists.intro none ?_
          obtain ⟨x5_1, e5_1, h⟩ := bS h
          refine Exists.intro [.int .i64 x5_1.V, .int .i64 x5_1.Min, .int .i64 x5_1.Max] (And.intro (idx_map enc_api_Entry e5_1) ?_)
          refine Exists.intro none ?_
          refine Exists.intro (some (⟨Unit, fun _ => [(.tmp 1, .av (.ptr 0 0)), (.tmp 3, .av (.int .i64 v3_27)), (.tmp 4, .av (.ptr 1027 0)), (.tmp 25, .av (.lst 3 false (List.map enc_api_Entry p0.Entries))), (.tmp 26, .av (.int .i64 (p0.Entries.length : Int))), (.tmp 27, .av (.int .i64 v3_27)), (.tmp 72, .av (.sb (((((decide (x5_1.Min < (1:Int))) || (decide (x5_1.Min > x5_1.Max))) || (decide (x5_1.Max > p0.N))) || ((v3_27 == (0:Int)) && (x5_1.Max != (1:Int)))) || ((v3_27 == (w64 ((p0.Entries.length : Int) - (1:Int)))) && (x5_1.Min != p0.N))))), (.box 0, .box [.int .i64 p0.N, .lst 3 false (List.map enc_api_Entry p0.Entries)]), (.box 1027, .box [.int .i64 x5_1.V, .int .i64 x5_1.Min, .int .i64 x5_1.Max])], fun _ => True, fun _ => 0⟩, 1000000)) (And.intro ?_ (fun _ _ => ?_))
          · skip
            refine And.intro (fun g5 => ?_) (fun g5 => ?_)
            · skip
              refine And.intro (fun g6 => ?_) (fun g6 => ?_)
              · skip
                refine And.intro (fun g7 => ?_) (fun g7 => ?_)
                · skip
                  refine And.intro (fun g8 => ?_) (fun g8 => ?_)
                  · skip
                    refine And.intro (fun g9 => ?_) (fun g9 => ?_)
                    · skip
                      refine Exists.intro [.int .i64 (p0.Entries.length : Int)] (And.intro (lenS enc_api_Entry p0.Entries) ?_)
                      refine And.intro (fun g10 => ?_) (fun g10 => ?_)
                      · skip
                        exact Exists.intro [] (Exists.intro [] (Exists.intro () (And.intro trivial (And.intro rfl (And.intro rfl (And.intro ff (And.intro rfl (And.intro rfl (And.intro rfl (And.intro (Eq.symm (oR (oR (oR (oR g5 g6) g7) (aR g8 g9)) (aR g10 rfl))) (And.intro rfl (And.intro ff (And.intro rfl (And.intro rfl (And.intro rfl (And.intro rfl trivial))))))))))))))))
                      · skip
                        exact Exists.intro [] (Exists.intro [] (Exists.intro () (And.intro trivial (And.intro rfl (And.intro rfl (And.intro ff (And.intro rfl (And.intro rfl (And.intro rfl (And.intro (Eq.symm (oR (oR (oR (oR g5 g6) g7) (aR g8 g9)) (aL g10))) (And.intro rfl (And.intro ff (And.intro rfl (And.intro rfl (And.intro rfl (And.intro rfl trivial))))))))))))))))
                    · skip
                      exact Exists.intro [] (Exists.intro [] (Exists.intro () (And.intro trivial (And.intro rfl (And.intro rfl (And.intro ff (And.intro rfl (And.intro rfl (And.intro rfl (And.intro (Eq.symm (oL (oR (oR (oR g5 g6) g7) (aR g8 g9)))) (And.intro rfl (And.intro ff (And.intro rfl (And.intro rfl (And.intro rfl (And.intro rfl trivial))))))))))))))))
                  · skip
                    refine Exists.intro [.int .i64 (p0.Entries.length : Int)] (And.intro (lenS enc_api_Entry p0.Entries) ?_)
                    refine And.intro (fun g11 => ?_) (fun g11 => ?_)
                    · skip
                      exact Exists.intro [] (Exists.intro [] (Exists.intro () (And.intro trivial (And.intro rfl (And.intro rfl (And.intro ff (And.intro rfl (And.intro rfl (And.intro rfl (And.intro (Eq.symm (oR (oR (oR (oR g5 g6) g7) (aL g8)) (aR g11 rfl))) (And.intro rfl (And.intro ff (And.intro rfl (And.intro rfl (And.intro rfl (And.intro rfl trivial))))))))))))))))
                    · skip
                      exact Exists.intro [] (Exists.intro [] (Exists.intro () (And.intro trivial (And.intro rfl (And.intro rfl (And.intro ff (And.intro rfl (And.intro rfl (And.intro rfl (And.intro (Eq.symm (oR (oR (oR (oR g5 g6) g7) (aL g8)) (aL g11))) (And.intro rfl (And.intro ff (And.intro rfl (And.intro rfl (And.intro rfl (And.intro rfl trivial))))))))))))))))
                · skip
                  exact Exists.intro [] (Exists.intro [] (Exists.intro () (And.intro trivial (And.intro rfl (And.intro rfl (And.intro ff (And.intro rfl (And.intro rfl (And.intro rfl (And.intro (Eq.symm (oL (oL (oR (oR g5 g6) g7)))) (And.intro rfl (And.intro ff (And.intro rfl (And.intro rfl (And.intro rfl (And.intro rfl trivial))))))))))))))))
              · skip
                exact Exists.intro [] (Exists.intro [] (Exists.intro () (And.intro trivial (And.intro rfl (And.intro rfl (And.intro ff (And.intro rfl (And.intro rfl (And.intro rfl (And.intro (Eq.symm (oL (oL (oL (oR g5 g6))))) (And.intro rfl (And.intro ff (And.intro rfl (And.intro rfl (And.intro rfl (And.intro rfl trivial))))))))))))))))
            · skip
              exact Exists.intro [] (Exists.intro [] (Exists.intro () (And.intro trivial (And.intro rfl (And.intro rfl (And.intro ff (And.intro rfl (And.intro rfl (And.intro rfl (And.intro (Eq.symm (oL (oL (oL (oL g5))))) (And.intro rfl (And.intro ff (And.intro rfl (And.intro rfl (And.intro rfl (And.intro rfl trivial))))))))))))))))
          · skip
            refine And.intro (fun g12 => ?_) (fun g12 => ?_)
            · skip
              replace h := cT g12 h
              refine Exists.intro none ?_
              replace h := retS h hr1
              first | subst h | rw [← h]
              exact (And.intro rfl trivial)
            · skip
              replace h := cF g12 h
              refine Exists.intro none ?_
              refine Exists.intro none ?_
              refine And.intro (fun g13 => ?_) (fun g13 => ?_)
              · skip
                replace h := cT g13 h
                refine Exists.intro none ?_
                obtain ⟨x9_4, e9_4, h⟩ := bS h
                refine Exists.intro [.int .i64 x9_4.V, .int .i64 x9_4.Min, .int .i64 x9_4.Max] (And.intro (idx_map enc_api_Entry e9_4) ?_)
                refine Exists.intro none ?_
                refine Exists.intro none ?_
                refine And.intro (fun g14 => ?_) (fun g14 => ?_)
                · skip
                  refine And.intro (fun g15 => ?_) (fun g15 => ?_)
                  · skip
                    refine And.intro (fun g16 => ?_) (fun g16 => ?_)
                    · skip
                      replace h := cT (oR (oR g14 g15) g16) h
                      refine Exists.intro none ?_
                      replace h := retS h hr1
                      first | subst h | rw [← h]
                      exact (And.intro rfl trivial)
                    · skip
                      replace h := cF (oR (oR g14 g15) g16) h
                      refine Exists.intro none ?_
                      exact Exists.intro [] (Exists.intro [] (Exists.intro ((w64 (v3_27 + (1:Int))), m1) (And.intro (hl1 (w64 (v3_27 + (1:Int))) (Option.some.inj h).symm) (And.intro (Nat.lt_succ_self m1) (And.intro rfl (And.intro ff (And.intro rfl (And.intro rfl (And.intro rfl (And.intro rfl (And.intro ff (And.intro rfl trivial))))))))))))
                  · skip
                    replace h := cT (oL (oR g14 g15)) h
                    refine Exists.intro none ?_
                    replace h := retS h hr1
                    first | subst h | rw [← h]
                    exact (And.intro rfl trivial)
                · skip
                  replace h := cT (oL (oL g14)) h
                  refine Exists.intro none ?_
                  replace h := retS h hr1
                  first | subst h | rw [← h]
                  exact (And.intro rfl trivial)
              · skip
                replace h := cF g13 h
                refine Exists.intro none ?_
                exact Exists.intro [] (Exists.intro [] (Exists.intro ((w64 (v3_27 + (1:Int))), m1) (And.intro (hl1 (w64 (v3_27 + (1:Int))) (Option.some.inj h).symm) (And.intro (Nat.lt_succ_self m1) (And.intro rfl (And.intro ff (And.intro rfl (And.intro rfl (And.intro rfl (And.intro rfl (And.intro ff (And.intro rfl trivial))))))))))))
        · skip
          replace h := cF g4 h
          replace h := popS h hr1
          refine Exists.intro none ?_
          replace h := Option.some.inj h
          first | subst h | rw [← h]
          exact (And.intro rfl trivial)
    · skip
      replace h := cT (oL (oR g1 g2)) h
      refine Exists.intro none ?_
      replace h := Option.some.inj h
      first | subst h | rw [← h]
      exact (And.intro rfl trivial)
  · skip
    replace h := cT (oL (oL g1)) h
    refine Exists.intro none ?_
    replace h := Option.some.inj h
    first | subst h | rw [← h]
    exact (And.intro rfl trivial)

theorem c_rank_copied (p0 : api_Ranks) (r : api_Ranks) (h : rank_copied p0 = some r) : Contract Try.prog 53 [.agg [.int .i64 p0.N, .lst 3 false (List.map enc_api_Entry p0.Entries)]] [] (.agg [.int .i64 r.N, .lst 3 false (List.map enc_api_Entry r.Entries)]) [] := by
  refine contract_of_vcs tab_ok orders_ok Try.func53 Try.call53 (by kernel_rfl) 0 rfl rfl _ rfl ?_
  delta rank_copied at h
  refine Exists.intro none ?_
  refine Exists.intro none ?_
  obtain ⟨k1_5, h⟩ := ckS h
  refine And.intro (by have hh := (of_decide_eq_true k1_5); (try simp only [encZ, fixRows_length, List.length_map, List.length_append, List.length_take, List.length_drop, List.length_set, List.length_replicate, List.length_cons, List.length_nil] at hh); (try simp only [encZ, fixRows_length, List.length_map, List.length_append, List.length_take, List.length_drop, List.length_set, List.length_replicate, List.length_cons, List.length_nil]); (try simp only [w64, wu64] at hh); (try simp only [w64, wu64]); omega) ?_
  replace h := Option.some.inj h
  first | subst h | rw [← h]
  exact (And.intro rfl (And.intro ff (And.intro (by first | rfl | (simp only [encZ, List.map_append, List.map_cons, List.map_nil, List.map_take, List.map_drop, List.map_set, List.map_replicate]; done) | (simp only [encZ, List.map_append, List.map_cons, List.map_nil, List.map_take, List.map_drop, List.map_set, List.map_replicate]; rfl) | (simp only [encZ, List.map_append, List.map_cons, List.map_nil, List.map_take, List.map_drop, List.map_set, List.map_replicate, eL, enc_api_Ranks, enc_api_Recent, enc_api_Answer]; done) | (simp only [encZ, List.map_append, List.map_cons, List.map_nil, List.map_take, List.map_drop, List.map_set, List.map_replicate, eL, enc_api_Ranks, enc_api_Recent, enc_api_Answer]; rfl)) trivial)))

theorem c_rank_between (p0 : api_Entry) (p1 : (List api_Entry)) (p2 : Int) (p3 : Int) (r : api_Entry) (h : rank_between p0 p1 p2 p3 = some r) : Contract Try.prog 55 [.agg [.int .i64 p0.V, .int .i64 p0.Min, .int .i64 p0.Max], .lst 3 false (List.map enc_api_Entry p1), .int .i64 p2, .int .i64 p3] [] (.agg [.int .i64 r.V, .int .i64 r.Min, .int .i64 r.Max]) [] := by
  refine contract_of_vcs tab_ok orders_ok Try.func55 Try.call55 (by kernel_rfl) 0 rfl rfl _ rfl ?_
  delta rank_between at h
  refine Exists.intro none ?_
  refine Exists.intro none ?_
  refine Exists.intro (some (⟨Int, fun j1_b0x0_1 => [(.tmp 1, .av (.lst 3 false (List.map enc_api_Entry p1))), (.tmp 2, .av (.int .i64 p2)), (.tmp 3, .av (.int .i64 p3)), (.tmp 4, .av (.ptr 0 0)), (.tmp 8, .av (.ptr 1 0)), (.box 0, .box [.int .i64 p0.V, .int .i64 j1_b0x0_1, .int .i64 p0.Max]), (.box 1, .box [.int .i64 (0:Int), .int .i64 (0:Int), .int .i64 (0:Int)])], fun j1_b0x0_1 => rank_between_j1 p0 p1 p2 p3 j1_b0x0_1 = some r, fun _ => 0⟩, 1000000)) (And.intro ?_ ?_)
  · skip
    refine And.intro (fun g1 => ?_) (fun g1 => ?_)
    · skip
      replace h := cT g1 h
      refine Exists.intro none ?_
      obtain ⟨x2_5, e2_5, h⟩ := bS h
      refine Exists.intro [.int .i64 x2_5.V, .int .i64 x2_5.Min, .int .i64 x2_5.Max] (And.intro (idx_map enc_api_Entry e2_5) ?_)
      exact Exists.intro [] (Exists.intro [] (Exists.intro (w64 (p0.Min + x2_5.Min)) (And.intro h (And.intro rfl (And.intro ff (And.intro rfl (And.intro rfl (And.intro rfl (And.intro rfl (And.intro rfl (And.intro rfl (And.intro rfl (And.intro rfl (And.intro rfl trivial))))))))))))))
    · skip
      replace h := cF g1 h
      exact Exists.intro [] (Exists.intro [] (Exists.intro p0.Min (And.intro h (And.intro rfl (And.intro ff (And.intro rfl (And.intro rfl (And.intro rfl (And.intro rfl (And.intro rfl (And.intro rfl (And.intro rfl (And.intro rfl (And.intro rfl trivial))))))))))))))
  · skip
    clear h
    refine fun j1_b0x0_1 h => ?_
    replace h : rank_between_j1 p0 p1 p2 p3 j1_b0x0_1 = some r := h
    delta rank_between_j1 at h
    refine Exists.intro none ?_
    refine Exists.intro [.int .i64 (p1.length : Int)] (And.intro (lenS enc_api_Entry p1) ?_)
    refine Exists.intro none ?_
    refine And.intro (fun g2 => ?_) (fun g2 => ?_)
    · skip
      replace h := cT g2 h
      refine Exists.intro none ?_
      obtain ⟨x4_4, e4_4, h⟩ := bS h
      refine Exists.intro [.int .i64 x4_4.V, .int .i64 x4_4.Min, .int .i64 x4_4.Max] (And.intro (idx_map enc_api_Entry e4_4) ?_)
      refine Exists.intro none ?_
      replace h := Option.some.inj h
      first | subst h | rw [← h]
      exact (And.intro rfl (And.intro rfl (And.intro rfl trivial)))
    · skip
      replace h := cF g2 h
      refine Exists.intro none ?_
      refine Exists.intro none ?_
      replace h := Option.some.inj h
      first | subst h | rw [← h]
      exact (And.intro rfl (And.intro rfl (And.intro rfl trivial)))

theorem c_rank_Merge (p0 : api_Ranks) (p1 : api_Ranks) (r : (api_Ranks × Int)) (h : rank_Merge p0 p1 = some r) : Contract Try.prog 25 [.agg [.int .i64 p0.N, .lst 3 false (List.map enc_api_Entry p0.Entries)], .agg [.int .i64 p1.N, .lst 3 false (List.map enc_api_Entry p1.Entries)]] [] (.tup [.agg [.int .i64 r.1.N, .lst 3 false (List.map enc_api_Entry r.1.Entries)], .int .i64 r.2]) [] := by
  refine contract_of_vcs tab_ok orders_ok Try.func25 Try.call25 (by kernel_rfl) 0 rfl rfl _ rfl ?_
  delta rank_Merge at h
  refine Exists.intro none ?_
  refine Exists.intro none ?_
  obtain ⟨y1_1, e1_1, h⟩ := bS h
  refine Exists.intro (CK.plain _ _) (And.intro (Contract.wk (c_rank_Validate p0 y1_1 e1_1) (And.intro rfl (And.intro ff (And.intro rfl trivial)))) (And.intro rfl ?_))
  refine Exists.intro none ?_
  refine And.intro (fun g1 => ?_) (fun g1 => ?_)
  · skip
    replace h := cT g1 h
    refine Exists.intro none ?_
    replace h := Option.some.inj h
    first | subst h | rw [← h]
    exact (And.intro rfl (And.intro rfl (And.intro rfl trivial)))
  · skip
    replace h := cF g1 h
    refine Exists.intro none ?_
    obtain ⟨y4_1, e4_1, h⟩ := bS h
    refine Exists.intro (CK.plain _ _) (And.intro (Contract.wk (c_rank_Validate p1 y4_1 e4_1) (And.intro rfl (And.intro ff (And.intro rfl trivial)))) (And.intro rfl ?_))
    refine Exists.intro none ?_
    refine And.intro (fun g2 => ?_) (fun g2 => ?_)
    · skip
      replace h := cT g2 h
      refine Exists.intro none ?_
      replace h := Option.some.inj h
      first | subst h | rw [← h]
      exact (And.intro rfl (And.intro rfl (And.intro rfl trivial)))
    · skip
      replace h := cF g2 h
      refine Exists.intro none ?_
      refine And.intro (fun g3 => ?_) (fun g3 => ?_)
      · skip
        replace h := cT g3 h
        refine Exists.intro none ?_
        replace h := Option.some.inj h
        first | subst h | rw [← h]
        exact (And.intro rfl (And.intro rfl (And.intro rfl trivial)))
      · skip
        replace h := cF g3 h
        refine Exists.intro none ?_
        refine And.intro (fun g4 => ?_) (fun g4 => ?_)
        · skip
          replace h := cT g4 h
          refine Exists.intro none ?_
          obtain ⟨y10_1, e10_1, h⟩ := bS h
          refine Exists.intro (CK.plain _ _) (And.intro (Contract.wk (c_rank_copied p1 y10_1 e10_1) (And.intro rfl (And.intro ff (And.intro rfl trivial)))) (And.intro rfl ?_))
          replace h := Option.some.inj h
          first | subst h | rw [← h]
          exact (And.intro rfl (And.intro ff (And.intro rfl (And.intro rfl trivial))))
        · skip
          replace h := cF g4 h
          refine Exists.intro none ?_
          refine And.intro (fun g5 => ?_) (fun g5 => ?_)
          · skip
            replace h := cT g5 h
            refine Exists.intro none ?_
            obtain ⟨y12_1, e12_1, h⟩ := bS h
            refine Exists.intro (CK.plain _ _) (And.intro (Contract.wk (c_rank_copied p0 y12_1 e12_1) (And.intro rfl (And.intro ff (And.intro rfl trivial)))) (And.intro rfl ?_))
            replace h := Option.some.inj h
            first | subst h | rw [← h]
            exact (And.intro rfl (And.intro ff (And.intro rfl (And.intro rfl trivial))))
          · skip
            replace h := cF g5 h
            refine Exists.intro none ?_
            refine Exists.intro none ?_
            refine Exists.intro none ?_
            replace h : rank_Merge_l7 p0 p1 (0:Int) (0:Int) ([] : List api_Entry) = some r := h
            delta rank_Merge_l7 at h
            obtain ⟨n1, h⟩ := loopS h
            refine Exists.intro ⟨(Int × Int × (List api_Entry)) × Nat, fun q => [(.tmp 2, .av (.ptr 0 0)), (.tmp 3, .av (.ptr 1 0)), (.tmp 4, .av (.ptr 2 0)), (.tmp 8, .av (.ptr 2054 0)), (.tmp 9, .av (.lst 3 false (List.map enc_api_Entry p0.Entries))), (.tmp 10, .av (.lst 3 false (List.map enc_api_Entry p1.Entries))), (.tmp 11, .av (.int .i64 q.1.1)), (.tmp 12, .av (.int .i64 q.1.2.1)), (.box 0, .box [.int .i64 p0.N, .lst 3 false (List.map enc_api_Entry p0.Entries)]), (.box 1, .box [.int .i64 p1.N, .lst 3 false (List.map enc_api_Entry p1.Entries)]), (.box 2, .box [.int .i64 (0:Int), .nilS]), (.box 2054, .box [.int .i64 (w64 (p0.N + p1.N)), .own 2815]), (.tok 2815, .tok 39 3 (List.map enc_api_Entry q.1.2.2))], fun q => loopN (fun (s : (Int × Int × (List api_Entry))) => rank_Merge_l7s p0 p1 s.1 s.2.1 s.2.2) q.2 q.1 = some r, fun q => q.2⟩ (And.intro (Exists.intro [(2815, none)] (Exists.intro [] (Exists.intro (((0:Int), (0:Int), ([] : List api_Entry)), n1) (And.intro h (And.intro rfl (And.intro ff (And.intro rfl (And.intro ff (And.intro rfl (And.intro rfl (And.intro rfl (And.intro rfl (And.intro ff (And.intro rfl (And.intro rfl (And.intro ff (And.intro rfl (And.intro rfl (And.intro rfl (And.intro rfl trivial)))))))))))))))))))) ?_)
            clear h
            refine fun q h => ?_
            obtain ⟨⟨v7_11, v7_12, v7_b13x6_1⟩, n1⟩ := q
            obtain ⟨m1, x1, hm1, h, hl1, hr1⟩ := loopN_step h
            replace hm1 : n1 = m1 + 1 := hm1
            subst hm1
            replace h : rank_Merge_l7s p0 p1 v7_11 v7_12 v7_b13x6_1 = some x1 := h
            delta rank_Merge_l7s at h
            refine Exists.intro none ?_
            refine Exists.intro (some (⟨Unit, fun _ => [(.tmp 2, .av (.ptr 0 0)), (.tmp 3, .av (.ptr 1 0)), (.tmp 4, .av (.ptr 2 0)), (.tmp 8, .av (.ptr 2054 0)), (.tmp 9, .av (.lst 3 false (List.map enc_api_Entry p0.Entries))), (.tmp 10, .av (.lst 3 false (List.map enc_api_Entry p1.Entries))), (.tmp 11, .av (.int .i64 v7_11)), (.tmp 12, .av (.int .i64 v7_12)), (.tmp 62, .av (.sb ((decide (v7_11 < (p0.Entries.length : Int))) || (decide (v7_12 < (p1.Entries.length : Int)))))), (.box 0, .box [.int .i64 p0.N, .lst 3 false (List.map enc_api_Entry p0.Entries)]), (.box 1, .box [.int .i64 p1.N, .lst 3 false (List.map enc_api_Entry p1.Entries)]), (.box 2, .box [.int .i64 (0:Int), .nilS]), (.box 2054, .box [.int .i64 (w64 (p0.N + p1.N)), .own 2815]), (.tok 2815, .tok 39 3 (List.map enc_api_Entry v7_b13x6_1))], fun _ => True, fun _ => 0⟩, 1000000)) (And.intro ?_ (fun _ _ => ?_))
            · skip
              refine Exists.intro [.int .i64 (p0.Entries.length : Int)] (And.intro (lenS enc_api_Entry p0.Entries) ?_)
              refine And.intro (fun g6 => ?_) (fun g6 => ?_)
              · skip
                refine Exists.intro [.int .i64 (p1.Entries.length : Int)] (And.intro (lenS enc_api_Entry p1.Entries) ?_)
                exact Exists.intro [] (Exists.intro [] (Exists.intro () (And.intro trivial (And.intro rfl (And.intro ff (And.intro rfl (And.intro ff (And.intro rfl (And.intro rfl (And.intro rfl (And.intro (Eq.symm (oR g6 rfl)) (And.intro rfl (And.intro ff (And.intro rfl (And.intro rfl (And.intro ff (And.intro rfl (And.intro rfl (And.intro rfl (And.intro rfl trivial))))))))))))))))))))
              · skip
                exact Exists.intro [] (Exists.intro [] (Exists.intro () (And.intro trivial (And.intro rfl (And.intro ff (And.intro rfl (And.intro ff (And.intro rfl (And.intro rfl (And.intro rfl (And.intro (Eq.symm (oL g6)) (And.intro rfl (And.intro ff (And.intro rfl (And.intro rfl (And.intro ff (And.intro rfl (And.intro rfl (And.intro rfl (And.intro rfl trivial))))))))))))))))))))
            · skip
              refine And.intro (fun g7 => ?_) (fun g7 => ?_)
              · skip
                replace h := cT g7 h
                refine Exists.intro none ?_
                refine Exists.intro none ?_
                refine Exists.intro none ?_
                obtain ⟨x18_12, e18_12, h⟩ := bS h
                obtain ⟨x18_17, e18_17, h⟩ := bS h
                refine Exists.intro (some (⟨Unit, fun _ => [(.tmp 2, .av (.ptr 0 0)), (.tmp 3, .av (.ptr 1 0)), (.tmp 4, .av (.ptr 2 0)), (.tmp 8, .av (.ptr 2054 0)), (.tmp 9, .av (.lst 3 false (List.map enc_api_Entry p0.Entries))), (.tmp 10, .av (.lst 3 false (List.map enc_api_Entry p1.Entries))), (.tmp 11, .av (.int .i64 v7_11)), (.tmp 12, .av (.int .i64 v7_12)), (.tmp 13, .av (.ptr 1000000 0)), (.tmp 85, .av (.sb ((v7_12 == (p1.Entries.length : Int)) || ((decide (v7_11 < (p0.Entries.length : Int))) && (decide (x18_12.V ≤ x18_17.V)))))), (.box 0, .box [.int .i64 p0.N, .lst 3 false (List.map enc_api_Entry p0.Entries)]), (.box 1, .box [.int .i64 p1.N, .lst 3 false (List.map enc_api_Entry p1.Entries)]), (.box 2, .box [.int .i64 (0:Int), .nilS]), (.box 2054, .box [.int .i64 (w64 (p0.N + p1.N)), .own 2815]), (.box 1000000, .box [.int .i64 (0:Int), .int .i64 (0:Int), .int .i64 (0:Int)]), (.tok 2815, .tok 39 3 (List.map enc_api_Entry v7_b13x6_1))], fun _ => True, fun _ => 0⟩, 2000000)) (And.intro ?_ (fun _ _ => ?_))
                · skip
                  refine Exists.intro [.int .i64 (p1.Entries.length : Int)] (And.intro (lenS enc_api_Entry p1.Entries) ?_)
                  refine And.intro (fun g8 => ?_) (fun g8 => ?_)
                  · skip
                    refine Exists.intro [.int .i64 (p0.Entries.length : Int)] (And.intro (lenS enc_api_Entry p0.Entries) ?_)
                    refine And.intro (fun g9 => ?_) (fun g9 => ?_)
                    · skip
                      refine Exists.intro [.int .i64 x18_12.V, .int .i64 x18_12.Min, .int .i64 x18_12.Max] (And.intro (idx_map enc_api_Entry (gdT (aR (nE g8) g9) e18_12)) ?_)
                      refine Exists.intro [.int .i64 x18_17.V, .int .i64 x18_17.Min, .int .i64 x18_17.Max] (And.intro (idx_map enc_api_Entry (gdT (aR (nE g8) g9) e18_17)) ?_)
                      exact Exists.intro [] (Exists.intro [] (Exists.intro () (And.intro trivial (And.intro rfl (And.intro ff (And.intro rfl (And.intro ff (And.intro rfl (And.intro rfl (And.intro rfl (And.intro (Eq.symm (oR g8 (aR g9 rfl))) (And.intro rfl (And.intro ff (And.intro rfl (And.intro rfl (And.intro ff (And.intro rfl (And.intro rfl (And.intro rfl (And.intro rfl (And.intro rfl (And.intro rfl (And.intro rfl trivial)))))))))))))))))))))))
                    · skip
                      exact Exists.intro [] (Exists.intro [] (Exists.intro () (And.intro trivial (And.intro rfl (And.intro ff (And.intro rfl (And.intro ff (And.intro rfl (And.intro rfl (And.intro rfl (And.intro (Eq.symm (oR g8 (aL g9))) (And.intro rfl (And.intro ff (And.intro rfl (And.intro rfl (And.intro ff (And.intro rfl (And.intro rfl (And.intro rfl (And.intro rfl (And.intro rfl (And.intro rfl (And.intro rfl trivial)))))))))))))))))))))))
                  · skip
                    exact Exists.intro [] (Exists.intro [] (Exists.intro () (And.intro trivial (And.intro rfl (And.intro ff (And.intro rfl (And.intro ff (And.intro rfl (And.intro rfl (And.intro rfl (And.intro (Eq.symm (oL g8)) (And.intro rfl (And.intro ff (And.intro rfl (And.intro rfl (And.intro ff (And.intro rfl (And.intro rfl (And.intro rfl (And.intro rfl (And.intro rfl (And.intro rfl (And.intro rfl trivial)))))))))))))))))))))))
                · skip
                  refine Exists.intro (some (⟨Int × Int × Int × Int × Int, fun q => [(.tmp 2, .av (.ptr 0 0)), (.tmp 3, .av (.ptr 1 0)), (.tmp 4, .av (.ptr 2 0)), (.tmp 8, .av (.ptr 2054 0)), (.tmp 9, .av (.lst 3 false (List.map enc_api_Entry p0.Entries))), (.tmp 10, .av (.lst 3 false (List.map enc_api_Entry p1.Entries))), (.tmp 11, .av (.int .i64 q.1)), (.tmp 12, .av (.int .i64 q.2.1)), (.tmp 13, .av (.ptr 1000000 0)), (.box 0, .box [.int .i64 p0.N, .lst 3 false (List.map enc_api_Entry p0.Entries)]), (.box 1, .box [.int .i64 p1.N, .lst 3 false (List.map enc_api_Entry p1.Entries)]), (.box 2, .box [.int .i64 (0:Int), .nilS]), (.box 2054, .box [.int .i64 (w64 (p0.N + p1.N)), .own 2815]), (.box 1000000, .box [.int .i64 q.2.2.1, .int .i64 q.2.2.2.1, .int .i64 q.2.2.2.2]), (.tok 2815, .tok 39 3 (List.map enc_api_Entry v7_b13x6_1))], fun q => rank_Merge_j10 v7_b13x6_1 q.1 q.2.1 q.2.2.1 q.2.2.2.1 q.2.2.2.2 = some x1, fun _ => 0⟩, 3000000)) (And.intro ?_ ?_)
                  · skip
                    refine And.intro (fun g10 => ?_) (fun g10 => ?_)
                    · skip
                      replace h := cT g10 h
                      refine Exists.intro none ?_
                      obtain ⟨x19_2, e19_2, h⟩ := bS h
                      obtain ⟨y19_8, e19_8, h⟩ := bS h
                      refine Exists.intro [.int .i64 x19_2.V, .int .i64 x19_2.Min, .int .i64 x19_2.Max] (And.intro (idx_map enc_api_Entry e19_2) ?_)
                      refine Exists.intro (CK.plain _ _) (And.intro (Contract.wk (c_rank_between x19_2 p1.Entries v7_12 p1.N y19_8 e19_8) (And.intro rfl (And.intro rfl (And.intro rfl (And.intro ff (And.intro rfl (And.intro rfl (And.intro rfl trivial)))))))) (And.intro rfl ?_))
                      refine Exists.intro none ?_
                      exact Exists.intro [] (Exists.intro [] (Exists.intro ((w64 (v7_11 + (1:Int))), v7_12, y19_8.V, y19_8.Min, y19_8.Max) (And.intro h (And.intro rfl (And.intro ff (And.intro rfl (And.intro ff (And.intro rfl (And.intro rfl (And.intro rfl (And.intro rfl (And.intro ff (And.intro rfl (And.intro rfl (And.intro ff (And.intro rfl (And.intro rfl (And.intro rfl (And.intro rfl (And.intro rfl (And.intro rfl (And.intro rfl trivial))))))))))))))))))))))
                    · skip
                      replace h := cF g10 h
                      refine Exists.intro none ?_
                      obtain ⟨x21_2, e21_2, h⟩ := bS h
                      obtain ⟨y21_8, e21_8, h⟩ := bS h
                      refine Exists.intro [.int .i64 x21_2.V, .int .i64 x21_2.Min, .int .i64 x21_2.Max] (And.intro (idx_map enc_api_Entry e21_2) ?_)
                      refine Exists.intro (CK.plain _ _) (And.intro (Contract.wk (c_rank_between x21_2 p0.Entries v7_11 p0.N y21_8 e21_8) (And.intro rfl (And.intro rfl (And.intro rfl (And.intro ff (And.intro rfl (And.intro rfl (And.intro rfl trivial)))))))) (And.intro rfl ?_))
                      refine Exists.intro none ?_
                      exact Exists.intro [] (Exists.intro [] (Exists.intro (v7_11, (w64 (v7_12 + (1:Int))), y21_8.V, y21_8.Min, y21_8.Max) (And.intro h (And.intro rfl (And.intro ff (And.intro rfl (And.intro ff (And.intro rfl (And.intro rfl (And.intro rfl (And.intro rfl (And.intro ff (And.intro rfl (And.intro rfl (And.intro ff (And.intro rfl (And.intro rfl (And.intro rfl (And.intro rfl (And.intro rfl (And.intro rfl (And.intro rfl trivial))))))))))))))))))))))
                  · skip
                    clear h
                    refine fun q h => ?_
                    obtain ⟨j10_11, j10_12, j10_b17x0_0, j10_b17x0_1, j10_b17x0_2⟩ := q
                    replace h : rank_Merge_j10 v7_b13x6_1 j10_11 j10_12 j10_b17x0_0 j10_b17x0_1 j10_b17x0_2 = some x1 := h
                    delta rank_Merge_j10 at h
                    refine Exists.intro none ?_
                    obtain ⟨k23_4, h⟩ := ckS h
                    refine And.intro (by have hh := (of_decide_eq_true k23_4); (try simp only [encZ, fixRows_length, List.length_map, List.length_append, List.length_take, List.length_drop, List.length_set, List.length_replicate, List.length_cons, List.length_nil] at hh); (try simp only [encZ, fixRows_length, List.length_map, List.length_append, List.length_take, List.length_drop, List.length_set, List.length_replicate, List.length_cons, List.length_nil]); (try simp only [w64, wu64] at hh); (try simp only [w64, wu64]); omega) ?_
                    exact Exists.intro [(2815, some 3000004)] (Exists.intro [] (Exists.intro ((j10_11, j10_12, (v7_b13x6_1 ++ [(api_Entry.mk j10_b17x0_0 j10_b17x0_1 j10_b17x0_2)])), m1) (And.intro (hl1 (j10_11, j10_12, (v7_b13x6_1 ++ [(api_Entry.mk j10_b17x0_0 j10_b17x0_1 j10_b17x0_2)])) (Option.some.inj h).symm) (And.intro (Nat.lt_succ_self m1) (And.intro rfl (And.intro ff (And.intro rfl (And.intro ff (And.intro rfl (And.intro rfl (And.intro rfl (And.intro rfl (And.intro ff (And.intro rfl (And.intro rfl (And.intro ff (And.intro rfl (And.intro rfl (And.intro rfl (And.intro (by first | rfl | (simp only [encZ, List.map_append, List.map_cons, List.map_nil, List.map_take, List.map_drop, List.map_set, List.map_replicate]; done) | (simp only [encZ, List.map_append, List.map_cons, List.map_nil, List.map_take, List.map_drop, List.map_set, List.map_replicate]; rfl) | (simp only [encZ, List.map_append, List.map_cons, List.map_nil, List.map_take, List.map_drop, List.map_set, List.map_replicate, eL, enc_api_Ranks, enc_api_Recent, enc_api_Answer]; done) | (simp only [encZ, List.map_append, List.map_cons, List.map_nil, List.map_take, List.map_drop, List.map_set, List.map_replicate, eL, enc_api_Ranks, enc_api_Recent, enc_api_Answer]; rfl)) trivial))))))))))))))))))))
              · skip
                replace h := cF g7 h
                replace h := popS h hr1
                refine Exists.intro none ?_
                replace h := Option.some.inj h
                first | subst h | rw [← h]
                exact (And.intro rfl (And.intro ff (And.intro rfl (And.intro rfl trivial))))

theorem c_ref21_widened (p0 : api_Ranks) (p1 : api_Ranks) (p2 : Bool) (r : (List api_Entry)) (h : ref21_widened p0 p1 p2 = some r) : Contract Try.prog 56 [.agg [.int .i64 p0.N, .lst 3 false (List.map enc_api_Entry p0.Entries)], .agg [.int .i64 p1.N, .lst 3 false (List.map enc_api_Entry p1.Entries)], .sb p2] [] (.lst 3 false (List.map enc_api_Entry r)) [] := by
  refine contract_of_vcs tab_ok orders_ok Try.func56 Try.call56 (by kernel_rfl) 0 rfl rfl _ rfl ?_
  delta ref21_widened at h
  refine Exists.intro none ?_
  refine Exists.intro none ?_
  refine Exists.intro none ?_
  refine Exists.intro [.int .i64 (p0.Entries.length : Int)] (And.intro (lenS enc_api_Entry p0.Entries) ?_)
  replace h : ref21_widened_l2 p0 p1 p2 ([] : List api_Entry) (0:Int) = some r := h
  delta ref21_widened_l2 at h
  obtain ⟨n1, h⟩ := loopS h
  refine Exists.intro ⟨((List api_Entry) × Int) × Nat, fun q => [(.tmp 2, .av (.sb p2)), (.tmp 4, .av (.ptr 1 0)), (.tmp 7, .av (.own 767)), (.tmp 17, .av (.lst 3 false (List.map enc_api_Entry p0.Entries))), (.tmp 18, .av (.int .i64 (p0.Entries.length : Int))), (.tmp 19, .av (.int .i64 q.1.2)), (.box 1, .box [.int .i64 p1.N, .lst 3 false (List.map enc_api_Entry p1.Entries)]), (.tok 767, .tok 39 3 (List.map enc_api_Entry q.1.1))], fun q => loopN (fun (s : ((List api_Entry) × Int)) => ref21_widened_l2s p0 p1 p2 s.1 s.2) q.2 q.1 = some r, fun q => q.2⟩ (And.intro (Exists.intro [(767, none)] (Exists.intro [] (Exists.intro ((([] : List api_Entry), (0:Int)), n1) (And.intro h (And.intro rfl (And.intro rfl (And.intro ff (And.intro rfl (And.intro rfl (And.intro rfl (And.intro rfl (And.intro ff (And.intro rfl (And.intro rfl trivial)))))))))))))) ?_)
  clear h
  refine fun q h => ?_
  obtain ⟨⟨v2_7, v2_19⟩, n1⟩ := q
  obtain ⟨m1, x1, hm1, h, hl1, hr1⟩ := loopN_step h
  replace hm1 : n1 = m1 + 1 := hm1
  subst hm1
  replace h : ref21_widened_l2s p0 p1 p2 v2_7 v2_19 = some x1 := h
  delta ref21_widened_l2s at h
  refine Exists.intro none ?_
  refine And.intro (fun g1 => ?_) (fun g1 => ?_)
  · skip
    replace h := cT g1 h
    refine Exists.intro none ?_
    obtain ⟨x4_0, e4_0, h⟩ := bS h
    refine Exists.intro [.int .i64 x4_0.V, .int .i64 x4_0.Min, .int .i64 x4_0.Max] (And.intro (idx_map enc_api_Entry e4_0) ?_)
    refine Exists.intro none ?_
    refine Exists.intro none ?_
    refine Exists.intro [.int .i64 (p1.Entries.length : Int)] (And.intro (lenS enc_api_Entry p1.Entries) ?_)
    replace h : ref21_widened_l6 p1 p2 x4_0 v2_7 v2_19 (0:Int) (0:Int) = some x1 := h
    delta ref21_widened_l6 at h
    obtain ⟨n2, h⟩ := loopS h
    refine Exists.intro ⟨(Int × Int) × Nat, fun q => [(.tmp 2, .av (.sb p2)), (.tmp 4, .av (.ptr 1 0)), (.tmp 7, .av (.own 767)), (.tmp 9, .av (.ptr 1026 0)), (.tmp 10, .av (.int .i64 q.1.1)), (.tmp 11, .av (.int .i64 p1.N)), (.tmp 17, .av (.lst 3 false (List.map enc_api_Entry p0.Entries))), (.tmp 18, .av (.int .i64 (p0.Entries.length : Int))), (.tmp 19, .av (.int .i64 v2_19)), (.tmp 26, .av (.lst 3 false (List.map enc_api_Entry p1.Entries))), (.tmp 27, .av (.int .i64 (p1.Entries.length : Int))), (.tmp 28, .av (.int .i64 q.1.2)), (.box 1, .box [.int .i64 p1.N, .lst 3 false (List.map enc_api_Entry p1.Entries)]), (.box 1026, .box [.int .i64 x4_0.V, .int .i64 x4_0.Min, .int .i64 x4_0.Max]), (.tok 767, .tok 39 3 (List.map enc_api_Entry v2_7))], fun q => loopN (fun (s : (Int × Int)) => ref21_widened_l6s p1 p2 x4_0 v2_7 v2_19 s.1 s.2) q.2 q.1 = some x1, fun q => q.2⟩ (And.intro (Exists.intro [] (Exists.intro [] (Exists.intro (((0:Int), (0:Int)), n2) (And.intro h (And.intro rfl (And.intro rfl (And.intro rfl (And.intro rfl (And.intro ff (And.intro rfl (And.intro rfl (And.intro rfl (And.intro ff (And.intro rfl (And.intro rfl (And.intro rfl (And.intro rfl (And.intro ff (And.intro rfl (And.intro rfl (And.intro rfl (And.intro rfl (And.intro rfl trivial))))))))))))))))))))))) ?_)
    clear h
    refine fun q h => ?_
    obtain ⟨⟨v6_10, v6_28⟩, n2⟩ := q
    obtain ⟨m2, x2, hm2, h, hl2, hr2⟩ := loopN_step h
    replace hm2 : n2 = m2 + 1 := hm2
    subst hm2
    replace h : ref21_widened_l6s p1 p2 x4_0 v2_7 v2_19 v6_10 v6_28 = some x2 := h
    delta ref21_widened_l6s at h
    refine Exists.intro none ?_
    refine And.intro (fun g2 => ?_) (fun g2 => ?_)
    · skip
      replace h := cT g2 h
      refine Exists.intro none ?_
      refine Exists.intro none ?_
      obtain ⟨x8_0, e8_0, h⟩ := bS h
      refine Exists.intro [.int .i64 x8_0.V, .int .i64 x8_0.Min, .int .i64 x8_0.Max] (And.intro (idx_map enc_api_Entry e8_0) ?_)
      refine Exists.intro none ?_
      refine Exists.intro (some (⟨Unit, fun _ => [(.tmp 2, .av (.sb p2)), (.tmp 4, .av (.ptr 1 0)), (.tmp 7, .av (.own 767)), (.tmp 9, .av (.ptr 1026 0)), (.tmp 10, .av (.int .i64 v6_10)), (.tmp 11, .av (.int .i64 p1.N)), (.tmp 13, .av (.ptr 2050 0)), (.tmp 17, .av (.lst 3 false (List.map enc_api_Entry p0.Entries))), (.tmp 18, .av (.int .i64 (p0.Entries.length : Int))), (.tmp 19, .av (.int .i64 v2_19)), (.tmp 26, .av (.lst 3 false (List.map enc_api_Entry p1.Entries))), (.tmp 27, .av (.int .i64 (p1.Entries.length : Int))), (.tmp 28, .av (.int .i64 v6_28)), (.tmp 47, .av (.sb ((decide (x8_0.V < x4_0.V)) || ((!p2) && (x8_0.V == x4_0.V))))), (.box 1, .box [.int .i64 p1.N, .lst 3 false (List.map enc_api_Entry p1.Entries)]), (.box 1026, .box [.int .i64 x4_0.V, .int .i64 x4_0.Min, .int .i64 x4_0.Max]), (.box 2050, .box [.int .i64 x8_0.V, .int .i64 x8_0.Min, .int .i64 x8_0.Max]), (.tok 767, .tok 39 3 (List.map enc_api_Entry v2_7))], fun _ => True, fun _ => 0⟩, 1000000)) (And.intro ?_ (fun _ _ => ?_))
      · skip
        refine And.intro (fun g3 => ?_) (fun g3 => ?_)
        · skip
          refine And.intro (fun g4 => ?_) (fun g4 => ?_)
          · skip
            exact Exists.intro [] (Exists.intro [] (Exists.intro () (And.intro trivial (And.intro rfl (And.intro rfl (And.intro rfl (And.intro rfl (And.intro ff (And.intro rfl (And.intro rfl (And.intro rfl (And.intro ff (And.intro rfl (And.intro rfl (And.intro rfl (And.intro (Eq.symm (oR g3 (aR g4 rfl))) (And.intro rfl (And.intro ff (And.intro rfl (And.intro rfl (And.intro rfl (And.intro rfl (And.intro rfl (And.intro rfl (And.intro rfl (And.intro rfl trivial))))))))))))))))))))))))))
          · skip
            exact Exists.intro [] (Exists.intro [] (Exists.intro () (And.intro trivial (And.intro rfl (And.intro rfl (And.intro rfl (And.intro rfl (And.intro ff (And.intro rfl (And.intro rfl (And.intro rfl (And.intro ff (And.intro rfl (And.intro rfl (And.intro rfl (And.intro (Eq.symm (oR g3 (aL g4))) (And.intro rfl (And.intro ff (And.intro rfl (And.intro rfl (And.intro rfl (And.intro rfl (And.intro rfl (And.intro rfl (And.intro rfl (And.intro rfl trivial))))))))))))))))))))))))))
        · skip
          exact Exists.intro [] (Exists.intro [] (Exists.intro () (And.intro trivial (And.intro rfl (And.intro rfl (And.intro rfl (And.intro rfl (And.intro ff (And.intro rfl (And.intro rfl (And.intro rfl (And.intro ff (And.intro rfl (And.intro rfl (And.intro rfl (And.intro (Eq.symm (oL g3)) (And.intro rfl (And.intro ff (And.intro rfl (And.intro rfl (And.intro rfl (And.intro rfl (And.intro rfl (And.intro rfl (And.intro rfl (And.intro rfl trivial))))))))))))))))))))))))))
      · skip
        refine Exists.intro none ?_
        refine And.intro (fun g5 => ?_) (fun g5 => ?_)
        · skip
          replace h := cT g5 h
          refine Exists.intro none ?_
          refine Exists.intro none ?_
          exact Exists.intro [] (Exists.intro [] (Exists.intro ((x8_0.Min, (w64 (v6_28 + (1:Int)))), m2) (And.intro (hl2 (x8_0.Min, (w64 (v6_28 + (1:Int)))) (Option.some.inj h).symm) (And.intro (Nat.lt_succ_self m2) (And.intro rfl (And.intro rfl (And.intro rfl (And.intro rfl (And.intro ff (And.intro rfl (And.intro rfl (And.intro rfl (And.intro ff (And.intro rfl (And.intro rfl (And.intro rfl (And.intro rfl (And.intro ff (And.intro rfl (And.intro rfl (And.intro rfl (And.intro rfl (And.intro rfl trivial)))))))))))))))))))))))
        · skip
          replace h := cF g5 h
          refine Exists.intro none ?_
          exact Exists.intro [] (Exists.intro [] (Exists.intro ((v6_10, (w64 (v6_28 + (1:Int)))), m2) (And.intro (hl2 (v6_10, (w64 (v6_28 + (1:Int)))) (Option.some.inj h).symm) (And.intro (Nat.lt_succ_self m2) (And.intro rfl (And.intro rfl (And.intro rfl (And.intro rfl (And.intro ff (And.intro rfl (And.intro rfl (And.intro rfl (And.intro ff (And.intro rfl (And.intro rfl (And.intro rfl (And.intro rfl (And.intro ff (And.intro rfl (And.intro rfl (And.intro rfl (And.intro rfl (And.intro rfl trivial)))))))))))))))))))))))
    · skip
      replace h := cF g2 h
      replace h := popS h hr2
      refine Exists.intro none ?_
      refine Exists.intro [.int .i64 (p1.Entries.length : Int)] (And.intro (lenS enc_api_Entry p1.Entries) ?_)
      replace h : ref21_widened_l11 p1 p2 x4_0 v6_10 v2_7 v2_19 p1.N (w64 ((p1.Entries.length : Int) - (1:Int))) = some x1 := h
      delta ref21_widened_l11 at h
      obtain ⟨n2, h⟩ := loopS h
      refine Exists.intro ⟨(Int × Int) × Nat, fun q => [(.tmp 2, .av (.sb p2)), (.tmp 4, .av (.ptr 1 0)), (.tmp 7, .av (.own 767)), (.tmp 9, .av (.ptr 1026 0)), (.tmp 10, .av (.int .i64 v6_10)), (.tmp 11, .av (.int .i64 q.1.1)), (.tmp 14, .av (.int .i64 q.1.2)), (.tmp 17, .av (.lst 3 false (List.map enc_api_Entry p0.Entries))), (.tmp 18, .av (.int .i64 (p0.Entries.length : Int))), (.tmp 19, .av (.int .i64 v2_19)), (.box 1, .box [.int .i64 p1.N, .lst 3 false (List.map enc_api_Entry p1.Entries)]), (.box 1026, .box [.int .i64 x4_0.V, .int .i64 x4_0.Min, .int .i64 x4_0.Max]), (.tok 767, .tok 39 3 (List.map enc_api_Entry v2_7))], fun q => loopN (fun (s : (Int × Int)) => ref21_widened_l11s p1 p2 x4_0 v6_10 v2_7 v2_19 s.1 s.2) q.2 q.1 = some x1, fun q => q.2⟩ (And.intro (Exists.intro [] (Exists.intro [] (Exists.intro ((p1.N, (w64 ((p1.Entries.length : Int) - (1:Int)))), n2) (And.intro h (And.intro rfl (And.intro rfl (And.intro rfl (And.intro rfl (And.intro rfl (And.intro ff (And.intro rfl (And.intro rfl (And.intro rfl (And.intro rfl (And.intro ff (And.intro rfl (And.intro rfl (And.intro rfl (And.intro rfl (And.intro rfl trivial)))))))))))))))))))) ?_)
      clear h
      refine fun q h => ?_
      obtain ⟨⟨v11_11, v11_14⟩, n2⟩ := q
      obtain ⟨m2, x2, hm2, h, hl2, hr2⟩ := loopN_step h
      replace hm2 : n2 = m2 + 1 := hm2
      subst hm2
      replace h : ref21_widened_l11s p1 p2 x4_0 v6_10 v2_7 v2_19 v11_11 v11_14 = some x2 := h
      delta ref21_widened_l11s at h
      refine Exists.intro none ?_
      refine And.intro (fun g6 => ?_) (fun g6 => ?_)
      · skip
        replace h := cT g6 h
        refine Exists.intro none ?_
        refine Exists.intro none ?_
        obtain ⟨x15_3, e15_3, h⟩ := bS h
        refine Exists.intro [.int .i64 x15_3.V, .int .i64 x15_3.Min, .int .i64 x15_3.Max] (And.intro (idx_map enc_api_Entry e15_3) ?_)
        refine Exists.intro none ?_
        refine Exists.intro (some (⟨Unit, fun _ => [(.tmp 2, .av (.sb p2)), (.tmp 4, .av (.ptr 1 0)), (.tmp 7, .av (.own 767)), (.tmp 9, .av (.ptr 1026 0)), (.tmp 10, .av (.int .i64 v6_10)), (.tmp 11, .av (.int .i64 v11_11)), (.tmp 14, .av (.int .i64 v11_14)), (.tmp 15, .av (.ptr 2565 0)), (.tmp 17, .av (.lst 3 false (List.map enc_api_Entry p0.Entries))), (.tmp 18, .av (.int .i64 (p0.Entries.length : Int))), (.tmp 19, .av (.int .i64 v2_19)), (.tmp 78, .av (.sb ((decide (x15_3.V > x4_0.V)) || (p2 && (x15_3.V == x4_0.V))))), (.box 1, .box [.int .i64 p1.N, .lst 3 false (List.map enc_api_Entry p1.Entries)]), (.box 1026, .box [.int .i64 x4_0.V, .int .i64 x4_0.Min, .int .i64 x4_0.Max]), (.box 2565, .box [.int .i64 x15_3.V, .int .i64 x15_3.Min, .int .i64 x15_3.Max]), (.tok 767, .tok 39 3 (List.map enc_api_Entry v2_7))], fun _ => True, fun _ => 0⟩, 1000000)) (And.intro ?_ (fun _ _ => ?_))
        · skip
          refine And.intro (fun g7 => ?_) (fun g7 => ?_)
          · skip
            refine And.intro (fun g8 => ?_) (fun g8 => ?_)
            · skip
              exact Exists.intro [] (Exists.intro [] (Exists.intro () (And.intro trivial (And.intro rfl (And.intro rfl (And.intro rfl (And.intro rfl (And.intro rfl (And.intro ff (And.intro rfl (And.intro rfl (And.intro rfl (And.intro (Eq.symm (oR g7 (aR g8 rfl))) (And.intro rfl (And.intro ff (And.intro rfl (And.intro rfl (And.intro rfl (And.intro rfl (And.intro rfl (And.intro rfl (And.intro rfl (And.intro rfl trivial)))))))))))))))))))))))
            · skip
              exact Exists.intro [] (Exists.intro [] (Exists.intro () (And.intro trivial (And.intro rfl (And.intro rfl (And.intro rfl (And.intro rfl (And.intro rfl (And.intro ff (And.intro rfl (And.intro rfl (And.intro rfl (And.intro (Eq.symm (oR g7 (aL g8))) (And.intro rfl (And.intro ff (And.intro rfl (And.intro rfl (And.intro rfl (And.intro rfl (And.intro rfl (And.intro rfl (And.intro rfl (And.intro rfl trivial)))))))))))))))))))))))
          · skip
            exact Exists.intro [] (Exists.intro [] (Exists.intro () (And.intro trivial (And.intro rfl (And.intro rfl (And.intro rfl (And.intro rfl (And.intro rfl (And.intro ff (And.intro rfl (And.intro rfl (And.intro rfl (And.intro (Eq.symm (oL g7)) (And.intro rfl (And.intro ff (And.intro rfl (And.intro rfl (And.intro rfl (And.intro rfl (And.intro rfl (And.intro rfl (And.intro rfl (And.intro rfl trivial)))))))))))))))))))))))
        · skip
          refine Exists.intro none ?_
          refine And.intro (fun g9 => ?_) (fun g9 => ?_)
          · skip
            replace h := cT g9 h
            refine Exists.intro none ?_
            refine Exists.intro none ?_
            exact Exists.intro [] (Exists.intro [] (Exists.intro (((w64 (x15_3.Max - (1:Int))), (w64 (v11_14 - (1:Int)))), m2) (And.intro (hl2 ((w64 (x15_3.Max - (1:Int))), (w64 (v11_14 - (1:Int)))) (Option.some.inj h).symm) (And.intro (Nat.lt_succ_self m2) (And.intro rfl (And.intro rfl (And.intro rfl (And.intro rfl (And.intro rfl (And.intro ff (And.intro rfl (And.intro rfl (And.intro rfl (And.intro rfl (And.intro ff (And.intro rfl (And.intro rfl (And.intro rfl (And.intro rfl (And.intro rfl trivial))))))))))))))))))))
          · skip
            replace h := cF g9 h
            refine Exists.intro none ?_
            exact Exists.intro [] (Exists.intro [] (Exists.intro ((v11_11, (w64 (v11_14 - (1:Int)))), m2) (And.intro (hl2 (v11_11, (w64 (v11_14 - (1:Int)))) (Option.some.inj h).symm) (And.intro (Nat.lt_succ_self m2) (And.intro rfl (And.intro rfl (And.intro rfl (And.intro rfl (And.intro rfl (And.intro ff (And.intro rfl (And.intro rfl (And.intro rfl (And.intro rfl (And.intro ff (And.intro rfl (And.intro rfl (And.intro rfl (And.intro rfl (And.intro rfl trivial))))))))))))))))))))
      · skip
        replace h := cF g6 h
        replace h := popS h hr2
        refine Exists.intro none ?_
        obtain ⟨k18_13, h⟩ := ckS h
        refine And.intro (by have hh := (of_decide_eq_true k18_13); (try simp only [encZ, fixRows_length, List.length_map, List.length_append, List.length_take, List.length_drop, List.length_set, List.length_replicate, List.length_cons, List.length_nil] at hh); (try simp only [encZ, fixRows_length, List.length_map, List.length_append, List.length_take, List.length_drop, List.length_set, List.length_replicate, List.length_cons, List.length_nil]); (try simp only [w64, wu64] at hh); (try simp only [w64, wu64]); omega) ?_
        refine Exists.intro none ?_
        exact Exists.intro [(767, some 2573)] (Exists.intro [] (Exists.intro (((v2_7 ++ [(api_Entry.mk x4_0.V (w64 (x4_0.Min + v6_10)) (w64 (x4_0.Max + v11_11)))]), (w64 (v2_19 + (1:Int)))), m1) (And.intro (hl1 ((v2_7 ++ [(api_Entry.mk x4_0.V (w64 (x4_0.Min + v6_10)) (w64 (x4_0.Max + v11_11)))]), (w64 (v2_19 + (1:Int)))) (Option.some.inj h).symm) (And.intro (Nat.lt_succ_self m1) (And.intro rfl (And.intro rfl (And.intro ff (And.intro rfl (And.intro rfl (And.intro rfl (And.intro rfl (And.intro ff (And.intro rfl (And.intro (by first | rfl | (simp only [encZ, List.map_append, List.map_cons, List.map_nil, List.map_take, List.map_drop, List.map_set, List.map_replicate]; done) | (simp only [encZ, List.map_append, List.map_cons, List.map_nil, List.map_take, List.map_drop, List.map_set, List.map_replicate]; rfl) | (simp only [encZ, List.map_append, List.map_cons, List.map_nil, List.map_take, List.map_drop, List.map_set, List.map_replicate, eL, enc_api_Ranks, enc_api_Recent, enc_api_Answer]; done) | (simp only [encZ, List.map_append, List.map_cons, List.map_nil, List.map_take, List.map_drop, List.map_set, List.map_replicate, eL, enc_api_Ranks, enc_api_Recent, enc_api_Answer]; rfl)) trivial))))))))))))))
  · skip
    replace h := cF g1 h
    replace h := popS h hr1
    refine Exists.intro none ?_
    replace h := Option.some.inj h
    first | subst h | rw [← h]
    exact (And.intro ff (And.intro rfl trivial))

theorem c_ref21_Merge (p0 : api_Ranks) (p1 : api_Ranks) (r : (api_Ranks × Int)) (h : ref21_Merge p0 p1 = some r) : Contract Try.prog 26 [.agg [.int .i64 p0.N, .lst 3 false (List.map enc_api_Entry p0.Entries)], .agg [.int .i64 p1.N, .lst 3 false (List.map enc_api_Entry p1.Entries)]] [] (.tup [.agg [.int .i64 r.1.N, .lst 3 false (List.map enc_api_Entry r.1.Entries)], .int .i64 r.2]) [] := by
  refine contract_of_vcs tab_ok orders_ok Try.func26 Try.call26 (by kernel_rfl) 0 rfl rfl _ rfl ?_
  delta ref21_Merge at h
  refine Exists.intro none ?_
  refine Exists.intro none ?_
  obtain ⟨y1_1, e1_1, h⟩ := bS h
  refine Exists.intro (CK.plain _ _) (And.intro (Contract.wk (c_ref21_Validate p0 y1_1 e1_1) (And.intro rfl (And.intro ff (And.intro rfl trivial)))) (And.intro rfl ?_))
  refine Exists.intro none ?_
  refine And.intro (fun g1 => ?_) (fun g1 => ?_)
  · skip
    replace h := cT g1 h
    refine Exists.intro none ?_
    replace h := Option.some.inj h
    first | subst h | rw [← h]
    exact (And.intro rfl (And.intro rfl (And.intro rfl trivial)))
  · skip
    replace h := cF g1 h
    refine Exists.intro none ?_
    obtain ⟨y4_1, e4_1, h⟩ := bS h
    refine Exists.intro (CK.plain _ _) (And.intro (Contract.wk (c_ref21_Validate p1 y4_1 e4_1) (And.intro rfl (And.intro ff (And.intro rfl trivial)))) (And.intro rfl ?_))
    refine Exists.intro none ?_
    refine And.intro (fun g2 => ?_) (fun g2 => ?_)
    · skip
      replace h := cT g2 h
      refine Exists.intro none ?_
      replace h := Option.some.inj h
      first | subst h | rw [← h]
      exact (And.intro rfl (And.intro rfl (And.intro rfl trivial)))
    · skip
      replace h := cF g2 h
      refine Exists.intro none ?_
      refine And.intro (fun g3 => ?_) (fun g3 => ?_)
      · skip
        replace h := cT g3 h
        refine Exists.intro none ?_
        replace h := Option.some.inj h
        first | subst h | rw [← h]
        exact (And.intro rfl (And.intro rfl (And.intro rfl trivial)))
      · skip
        replace h := cF g3 h
        refine Exists.intro none ?_
        refine Exists.intro none ?_
        obtain ⟨y10_2, e10_2, h⟩ := bS h
        obtain ⟨y10_5, e10_5, h⟩ := bS h
        refine Exists.intro (CK.plain _ _) (And.intro (Contract.wk (c_ref21_widened p0 p1 true y10_2 e10_2) (And.intro rfl (And.intro ff (And.intro rfl (And.intro rfl (And.intro ff (And.intro rfl (And.intro rfl trivial)))))))) (And.intro rfl ?_))
        refine Exists.intro (CK.plain _ _) (And.intro (Contract.wk (c_ref21_widened p1 p0 false y10_5 e10_5) (And.intro rfl (And.intro ff (And.intro rfl (And.intro rfl (And.intro ff (And.intro rfl (And.intro rfl trivial)))))))) (And.intro rfl ?_))
        replace h : ref21_Merge_l5 p0 p1 y10_2 y10_5 ([] : List api_Entry) = some r := h
        delta ref21_Merge_l5 at h
        obtain ⟨n1, h⟩ := loopS h
        refine Exists.intro ⟨((List api_Entry) × (List api_Entry) × (List api_Entry)) × Nat, fun q => [(.tmp 4, .av (.ptr 2 0)), (.tmp 8, .av (.ptr 1542 0)), (.tmp 9, .av (.lst 3 false (List.map enc_api_Entry q.1.1))), (.tmp 10, .av (.lst 3 false (List.map enc_api_Entry q.1.2.1))), (.box 2, .box [.int .i64 (0:Int), .nilS]), (.box 1542, .box [.int .i64 (w64 (p0.N + p1.N)), .own 2047]), (.tok 2047, .tok 39 3 (List.map enc_api_Entry q.1.2.2))], fun q => loopN (fun (s : ((List api_Entry) × (List api_Entry) × (List api_Entry))) => ref21_Merge_l5s p0 p1 s.1 s.2.1 s.2.2) q.2 q.1 = some r, fun q => q.2⟩ (And.intro (Exists.intro [(2047, none)] (Exists.intro [] (Exists.intro ((y10_2, y10_5, ([] : List api_Entry)), n1) (And.intro h (And.intro rfl (And.intro ff (And.intro rfl (And.intro ff (And.intro rfl (And.intro rfl (And.intro rfl (And.intro rfl trivial)))))))))))) ?_)
        clear h
        refine fun q h => ?_
        obtain ⟨⟨v5_9, v5_10, v5_b9x6_1⟩, n1⟩ := q
        obtain ⟨m1, x1, hm1, h, hl1, hr1⟩ := loopN_step h
        replace hm1 : n1 = m1 + 1 := hm1
        subst hm1
        replace h : ref21_Merge_l5s p0 p1 v5_9 v5_10 v5_b9x6_1 = some x1 := h
        delta ref21_Merge_l5s at h
        refine Exists.intro none ?_
        refine Exists.intro [.int .i64 (v5_9.length : Int)] (And.intro (lenS enc_api_Entry v5_9) ?_)
        refine Exists.intro [.int .i64 (v5_10.length : Int)] (And.intro (lenS enc_api_Entry v5_10) ?_)
        refine And.intro (fun g4 => ?_) (fun g4 => ?_)
        · skip
          replace h := cT g4 h
          refine Exists.intro none ?_
          refine Exists.intro none ?_
          obtain ⟨x12_9, e12_9, h⟩ := bS h
          obtain ⟨x12_13, e12_13, h⟩ := bS h
          refine Exists.intro (some (⟨Unit, fun _ => [(.tmp 4, .av (.ptr 2 0)), (.tmp 8, .av (.ptr 1542 0)), (.tmp 9, .av (.lst 3 false (List.map enc_api_Entry v5_9))), (.tmp 10, .av (.lst 3 false (List.map enc_api_Entry v5_10))), (.tmp 66, .av (.sb (((v5_10.length : Int) == (0:Int)) || ((decide ((v5_9.length : Int) > (0:Int))) && (decide (x12_9.V ≤ x12_13.V)))))), (.box 2, .box [.int .i64 (0:Int), .nilS]), (.box 1542, .box [.int .i64 (w64 (p0.N + p1.N)), .own 2047]), (.tok 2047, .tok 39 3 (List.map enc_api_Entry v5_b9x6_1))], fun _ => True, fun _ => 0⟩, 1000000)) (And.intro ?_ (fun _ _ => ?_))
          · skip
            refine Exists.intro [.int .i64 (v5_10.length : Int)] (And.intro (lenS enc_api_Entry v5_10) ?_)
            refine And.intro (fun g5 => ?_) (fun g5 => ?_)
            · skip
              refine Exists.intro [.int .i64 (v5_9.length : Int)] (And.intro (lenS enc_api_Entry v5_9) ?_)
              refine And.intro (fun g6 => ?_) (fun g6 => ?_)
              · skip
                refine Exists.intro [.int .i64 x12_9.V, .int .i64 x12_9.Min, .int .i64 x12_9.Max] (And.intro (idx_map enc_api_Entry (gdT (aR (nE g5) g6) e12_9)) ?_)
                refine Exists.intro [.int .i64 x12_13.V, .int .i64 x12_13.Min, .int .i64 x12_13.Max] (And.intro (idx_map enc_api_Entry (gdT (aR (nE g5) g6) e12_13)) ?_)
                exact Exists.intro [] (Exists.intro [] (Exists.intro () (And.intro trivial (And.intro rfl (And.intro ff (And.intro rfl (And.intro ff (And.intro rfl (And.intro (Eq.symm (oR g5 (aR g6 rfl))) (And.intro rfl (And.intro rfl (And.intro rfl trivial))))))))))))
              · skip
                exact Exists.intro [] (Exists.intro [] (Exists.intro () (And.intro trivial (And.intro rfl (And.intro ff (And.intro rfl (And.intro ff (And.intro rfl (And.intro (Eq.symm (oR g5 (aL g6))) (And.intro rfl (And.intro rfl (And.intro rfl trivial))))))))))))
            · skip
              exact Exists.intro [] (Exists.intro [] (Exists.intro () (And.intro trivial (And.intro rfl (And.intro ff (And.intro rfl (And.intro ff (And.intro rfl (And.intro (Eq.symm (oL g5)) (And.intro rfl (And.intro rfl (And.intro rfl trivial))))))))))))
          · skip
            refine Exists.intro none ?_
            refine And.intro (fun g7 => ?_) (fun g7 => ?_)
            · skip
              replace h := cT g7 h
              refine Exists.intro none ?_
              obtain ⟨x13_3, e13_3, h⟩ := bS h
              obtain ⟨k13_6, h⟩ := ckS h
              obtain ⟨k13_8, h⟩ := ckS h
              refine Exists.intro [.int .i64 x13_3.V, .int .i64 x13_3.Min, .int .i64 x13_3.Max] (And.intro (idx_map enc_api_Entry e13_3) ?_)
              refine And.intro (by have hh := (of_decide_eq_true k13_6); (try simp only [encZ, fixRows_length, List.length_map, List.length_append, List.length_take, List.length_drop, List.length_set, List.length_replicate, List.length_cons, List.length_nil] at hh); (try simp only [encZ, fixRows_length, List.length_map, List.length_append, List.length_take, List.length_drop, List.length_set, List.length_replicate, List.length_cons, List.length_nil]); (try simp only [w64, wu64] at hh); (try simp only [w64, wu64]); omega) ?_
              refine And.intro (by have hh := (of_decide_eq_true k13_8); (try simp only [encZ, fixRows_length, List.length_map, List.length_append, List.length_take, List.length_drop, List.length_set, List.length_replicate, List.length_cons, List.length_nil] at hh); (try simp only [encZ, fixRows_length, List.length_map, List.length_append, List.length_take, List.length_drop, List.length_set, List.length_replicate, List.length_cons, List.length_nil]); (try simp only [w64, wu64] at hh); (try simp only [w64, wu64]); omega) ?_
              exact Exists.intro [(2047, some 1000006)] (Exists.intro [] (Exists.intro (((v5_9.drop ((1:Int)).toNat), v5_10, (v5_b9x6_1 ++ [x13_3])), m1) (And.intro (hl1 ((v5_9.drop ((1:Int)).toNat), v5_10, (v5_b9x6_1 ++ [x13_3])) (Option.some.inj h).symm) (And.intro (Nat.lt_succ_self m1) (And.intro rfl (And.intro ff (And.intro (by first | rfl | (simp only [encZ, List.map_append, List.map_cons, List.map_nil, List.map_take, List.map_drop, List.map_set, List.map_replicate]; done) | (simp only [encZ, List.map_append, List.map_cons, List.map_nil, List.map_take, List.map_drop, List.map_set, List.map_replicate]; rfl) | (simp only [encZ, List.map_append, List.map_cons, List.map_nil, List.map_take, List.map_drop, List.map_set, List.map_replicate, eL, enc_api_Ranks, enc_api_Recent, enc_api_Answer]; done) | (simp only [encZ, List.map_append, List.map_cons, List.map_nil, List.map_take, List.map_drop, List.map_set, List.map_replicate, eL, enc_api_Ranks, enc_api_Recent, enc_api_Answer]; rfl)) (And.intro ff (And.intro rfl (And.intro rfl (And.intro rfl (And.intro (by first | rfl | (simp only [encZ, List.map_append, List.map_cons, List.map_nil, List.map_take, List.map_drop, List.map_set, List.map_replicate]; done) | (simp only [encZ, List.map_append, List.map_cons, List.map_nil, List.map_take, List.map_drop, List.map_set, List.map_replicate]; rfl) | (simp only [encZ, List.map_append, List.map_cons, List.map_nil, List.map_take, List.map_drop, List.map_set, List.map_replicate, eL, enc_api_Ranks, enc_api_Recent, enc_api_Answer]; done) | (simp only [encZ, List.map_append, List.map_cons, List.map_nil, List.map_take, List.map_drop, List.map_set, List.map_replicate, eL, enc_api_Ranks, enc_api_Recent, enc_api_Answer]; rfl)) trivial))))))))))))
            · skip
              replace h := cF g7 h
              refine Exists.intro none ?_
              obtain ⟨x14_3, e14_3, h⟩ := bS h
              obtain ⟨k14_6, h⟩ := ckS h
              obtain ⟨k14_8, h⟩ := ckS h
              refine Exists.intro [.int .i64 x14_3.V, .int .i64 x14_3.Min, .int .i64 x14_3.Max] (And.intro (idx_map enc_api_Entry e14_3) ?_)
              refine And.intro (by have hh := (of_decide_eq_true k14_6); (try simp only [encZ, fixRows_length, List.length_map, List.length_append, List.length_take, List.length_drop, List.length_set, List.length_replicate, List.length_cons, List.length_nil] at hh); (try simp only [encZ, fixRows_length, List.length_map, List.length_append, List.length_take, List.length_drop, List.length_set, List.length_replicate, List.length_cons, List.length_nil]); (try simp only [w64, wu64] at hh); (try simp only [w64, wu64]); omega) ?_
              refine And.intro (by have hh := (of_decide_eq_true k14_8); (try simp only [encZ, fixRows_length, List.length_map, List.length_append, List.length_take, List.length_drop, List.length_set, List.length_replicate, List.length_cons, List.length_nil] at hh); (try simp only [encZ, fixRows_length, List.length_map, List.length_append, List.length_take, List.length_drop, List.length_set, List.length_replicate, List.length_cons, List.length_nil]); (try simp only [w64, wu64] at hh); (try simp only [w64, wu64]); omega) ?_
              exact Exists.intro [(2047, some 1000006)] (Exists.intro [] (Exists.intro ((v5_9, (v5_10.drop ((1:Int)).toNat), (v5_b9x6_1 ++ [x14_3])), m1) (And.intro (hl1 (v5_9, (v5_10.drop ((1:Int)).toNat), (v5_b9x6_1 ++ [x14_3])) (Option.some.inj h).symm) (And.intro (Nat.lt_succ_self m1) (And.intro rfl (And.intro ff (And.intro rfl (And.intro ff (And.intro (by first | rfl | (simp only [encZ, List.map_append, List.map_cons, List.map_nil, List.map_take, List.map_drop, List.map_set, List.map_replicate]; done) | (simp only [encZ, List.map_append, List.map_cons, List.map_nil, List.map_take, List.map_drop, List.map_set, List.map_replicate]; rfl) | (simp only [encZ, List.map_append, List.map_cons, List.map_nil, List.map_take, List.map_drop, List.map_set, List.map_replicate, eL, enc_api_Ranks, enc_api_Recent, enc_api_Answer]; done) | (simp only [encZ, List.map_append, List.map_cons, List.map_nil, List.map_take, List.map_drop, List.map_set, List.map_replicate, eL, enc_api_Ranks, enc_api_Recent, enc_api_Answer]; rfl)) (And.intro rfl (And.intro rfl (And.intro (by first | rfl | (simp only [encZ, List.map_append, List.map_cons, List.map_nil, List.map_take, List.map_drop, List.map_set, List.map_replicate]; done) | (simp only [encZ, List.map_append, List.map_cons, List.map_nil, List.map_take, List.map_drop, List.map_set, List.map_replicate]; rfl) | (simp only [encZ, List.map_append, List.map_cons, List.map_nil, List.map_take, List.map_drop, List.map_set, List.map_replicate, eL, enc_api_Ranks, enc_api_Recent, enc_api_Answer]; done) | (simp only [encZ, List.map_append, List.map_cons, List.map_nil, List.map_take, List.map_drop, List.map_set, List.map_replicate, eL, enc_api_Ranks, enc_api_Recent, enc_api_Answer]; rfl)) trivial))))))))))))
        · skip
          replace h := cF g4 h
          replace h := popS h hr1
          refine Exists.intro none ?_
          replace h := Option.some.inj h
          first | subst h | rw [← h]
          exact (And.intro rfl (And.intro ff (And.intro rfl (And.intro rfl trivial))))

theorem c_law21_RankMerges (p0 : api_Ranks) (p1 : api_Ranks) (r : Bool) (h : law21_RankMerges p0 p1 = some r) : Contract Try.prog 7 [.agg [.int .i64 p0.N, .lst 3 false (List.map enc_api_Entry p0.Entries)], .agg [.int .i64 p1.N, .lst 3 false (List.map enc_api_Entry p1.Entries)]] [] (.sb r) [] := by
  refine contract_of_vcs tab_ok orders_ok Try.func7 Try.call7 (by kernel_rfl) 0 rfl rfl _ rfl ?_
  delta law21_RankMerges at h
  refine Exists.intro none ?_
  refine Exists.intro none ?_
  refine Exists.intro (some (⟨Unit, fun _ => [(.tmp 2, .av (.ptr 0 0)), (.tmp 3, .av (.ptr 1 0)), (.tmp 16, .av (.sb ((!(law21_few p0)) || (!(law21_few p1))))), (.box 0, .box [.int .i64 p0.N, .lst 3 false (List.map enc_api_Entry p0.Entries)]), (.box 1, .box [.int .i64 p1.N, .lst 3 false (List.map enc_api_Entry p1.Entries)])], fun _ => True, fun _ => 0⟩, 1000000)) (And.intro ?_ (fun _ _ => ?_))
  · skip
    refine Exists.intro (CK.plain _ _) (And.intro (Contract.wk (c_law21_few p0) (And.intro rfl (And.intro ff (And.intro rfl trivial)))) (And.intro rfl ?_))
    refine And.intro (fun g1 => ?_) (fun g1 => ?_)
    · skip
      refine Exists.intro (CK.plain _ _) (And.intro (Contract.wk (c_law21_few p1) (And.intro rfl (And.intro ff (And.intro rfl trivial)))) (And.intro rfl ?_))
      exact Exists.intro [] (Exists.intro [] (Exists.intro () (And.intro trivial (And.intro rfl (And.intro (Eq.symm (oR g1 rfl)) (And.intro rfl (And.intro ff (And.intro rfl (And.intro rfl (And.intro ff (And.intro rfl trivial)))))))))))
    · skip
      exact Exists.intro [] (Exists.intro [] (Exists.intro () (And.intro trivial (And.intro rfl (And.intro (Eq.symm (oL g1)) (And.intro rfl (And.intro ff (And.intro rfl (And.intro rfl (And.intro ff (And.intro rfl trivial)))))))))))
  · skip
    refine And.intro (fun g2 => ?_) (fun g2 => ?_)
    · skip
      replace h := cT g2 h
      refine Exists.intro none ?_
      obtain ⟨y2_0, e2_0, h⟩ := bS h
      refine Exists.intro (CK.plain _ _) (And.intro (Contract.wk (c_law21_awake y2_0 e2_0) trivial) (And.intro rfl ?_))
      replace h := Option.some.inj h
      first | subst h | rw [← h]
      exact (And.intro rfl trivial)
    · skip
      replace h := cF g2 h
      refine Exists.intro none ?_
      obtain ⟨y3_2, e3_2, h⟩ := bS h
      refine Exists.intro (CK.plain _ _) (And.intro (Contract.wk (c_rank_Merge p0 p1 y3_2 e3_2) (And.intro rfl (And.intro ff (And.intro rfl (And.intro rfl (And.intro ff (And.intro rfl trivial))))))) (And.intro rfl ?_))
      refine Exists.intro none ?_
      obtain ⟨y4_2, e4_2, h⟩ := bS h
      refine Exists.intro (CK.plain _ _) (And.intro (Contract.wk (c_ref21_Merge p0 p1 y4_2 e4_2) (And.intro rfl (And.intro ff (And.intro rfl (And.intro rfl (And.intro ff (And.intro rfl trivial))))))) (And.intro rfl ?_))
      refine Exists.intro none ?_
      obtain ⟨y5_2, e5_2, h⟩ := bS h
      refine Exists.intro none ?_
      refine Exists.intro (CK.plain _ _) (And.intro (Contract.wk (c_ref21_Same y3_2.1 y4_2.1 y5_2 e5_2) (And.intro rfl (And.intro ff (And.intro rfl (And.intro rfl (And.intro ff (And.intro rfl trivial))))))) (And.intro rfl ?_))
      refine And.intro (fun g3 => ?_) (fun g3 => ?_)
      · skip
        refine And.intro (fun g4 => ?_) (fun g4 => ?_)
        · skip
          replace h := cT (oR g3 g4) h
          refine Exists.intro none ?_
          replace h := Option.some.inj h
          first | subst h | rw [← h]
          exact (And.intro rfl trivial)
        · skip
          replace h := cF (oR g3 g4) h
          refine Exists.intro none ?_
          obtain ⟨y7_14, e7_14, h⟩ := bS h
          obtain ⟨y7_17, e7_17, h⟩ := bS h
          obtain ⟨y7_20, e7_20, h⟩ := bS h
          obtain ⟨y7_26, e7_26, h⟩ := bS h
          refine Exists.intro none ?_
          refine And.intro (fun g5 => ?_) (fun g5 => ?_)
          · skip
            refine And.intro (fun g6 => ?_) (fun g6 => ?_)
            · skip
              refine And.intro (fun g7 => ?_) (fun g7 => ?_)
              · skip
                refine Exists.intro (CK.plain _ _) (And.intro (Contract.wk (c_rank_Gap y3_2.1 y7_14 (gdT (nE (oR (oR g5 g6) g7)) e7_14)) (And.intro rfl (And.intro ff (And.intro rfl trivial)))) (And.intro rfl ?_))
                refine Exists.intro (CK.plain _ _) (And.intro (Contract.wk (c_rank_Gap p0 y7_17 (gdT (nE (oR (oR g5 g6) g7)) e7_17)) (And.intro rfl (And.intro ff (And.intro rfl trivial)))) (And.intro rfl ?_))
                refine Exists.intro (CK.plain _ _) (And.intro (Contract.wk (c_rank_Gap p1 y7_20 (gdT (nE (oR (oR g5 g6) g7)) e7_20)) (And.intro rfl (And.intro ff (And.intro rfl trivial)))) (And.intro rfl ?_))
                refine And.intro (fun g8 => ?_) (fun g8 => ?_)
                · skip
                  refine Exists.intro (CK.plain _ _) (And.intro (Contract.wk (c_law21_awake y7_26 (gdT (oR (oR (oR g5 g6) g7) g8) e7_26)) trivial) (And.intro rfl ?_))
                  replace h := Option.some.inj h
                  first | subst h | rw [← h]
                  exact (And.intro (Eq.symm (aR (oR (oR (oR g5 g6) g7) g8) rfl)) trivial)
                · skip
                  replace h := Option.some.inj h
                  first | subst h | rw [← h]
                  exact (And.intro (Eq.symm (aL (oR (oR (oR g5 g6) g7) g8))) trivial)
              · skip
                refine Exists.intro (CK.plain _ _) (And.intro (Contract.wk (c_law21_awake y7_26 (gdT (oL (oR (oR g5 g6) g7)) e7_26)) trivial) (And.intro rfl ?_))
                replace h := Option.some.inj h
                first | subst h | rw [← h]
                exact (And.intro (Eq.symm (aR (oL (oR (oR g5 g6) g7)) rfl)) trivial)
            · skip
              refine Exists.intro (CK.plain _ _) (And.intro (Contract.wk (c_law21_awake y7_26 (gdT (oL (oL (oR g5 g6))) e7_26)) trivial) (And.intro rfl ?_))
              replace h := Option.some.inj h
              first | subst h | rw [← h]
              exact (And.intro (Eq.symm (aR (oL (oL (oR g5 g6))) rfl)) trivial)
          · skip
            refine Exists.intro (CK.plain _ _) (And.intro (Contract.wk (c_law21_awake y7_26 (gdT (oL (oL (oL g5))) e7_26)) trivial) (And.intro rfl ?_))
            replace h := Option.some.inj h
            first | subst h | rw [← h]
            exact (And.intro (Eq.symm (aR (oL (oL (oL g5))) rfl)) trivial)
      · skip
        replace h := cT (oL g3) h
        refine Exists.intro none ?_
        replace h := Option.some.inj h
        first | subst h | rw [← h]
        exact (And.intro rfl trivial)

end Go.Proofs.Ytpclnmpmammlfaa
