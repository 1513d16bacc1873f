/- The contracts: each function of the program does what its function on plain data says. Made by program. -/
import Derived.Test.YtpclnmpmammlfaaTab
import Derived.Test.YtpclnmpmammlfaaWin
import Derived.Test.YtpclnmpmammlfaaWalk
import Derived.Test.YtpclnmpmammlfaaSrt
set_option linter.unusedVariables false
set_option linter.unusedSimpArgs false
set_option linter.unnecessarySimpa false
set_option maxHeartbeats 4000000
namespace Go.Proofs.Ytpclnmpmammlfaa
open Go.Vc Go.Dec Go.Win

theorem c_rank_Of (p0 : (List Int)) (r : (api_Ranks × Int)) (h : rank_Of p0 = some r) : Contract Try.prog 13 [.lst 1 false (List.map (eI .i64) p0)] [] (.tup [.agg [.int .i64 r.1.N, .lst 3 false (List.map enc_api_Entry r.1.Entries)], .int .i64 r.2]) [] := by
  refine contract_of_vcs tab_ok orders_ok Try.func13 Try.call13 (by kernel_rfl) 0 rfl rfl _ rfl ?_
  delta rank_Of at h
  refine Exists.intro none ?_
  refine Exists.intro none ?_
  refine Exists.intro [.int .i64 (p0.length : Int)] (And.intro (lenS (eI .i64) p0) ?_)
  refine And.intro (fun g1 => ?_) (fun g1 => ?_)
  · skip
    replace h := cT g1 h
    refine Exists.intro none ?_
    replace h := Option.some.inj h
    first | subst h | rw [← h]
    exact (And.intro rfl (And.intro rfl (And.intro rfl trivial)))
  · skip
    replace h := cF g1 h
    refine Exists.intro none ?_
    obtain ⟨k3_1, h⟩ := ckS h
    refine Exists.intro (CK.fresh _ _ _) (And.intro (clone_int false p0 (of_decide_eq_true k3_1)) (And.intro rfl ?_))
    refine Exists.intro none ?_
    obtain ⟨k4_1, h⟩ := ckS h
    refine Exists.intro (CK.sorts 513 2 p0) (And.intro sorts_int (And.intro (And.intro rfl (And.intro rfl (of_decide_eq_true k4_1))) ?_))
    refine Exists.intro none ?_
    refine Exists.intro [.int .i64 ((sortZ p0).length : Int)] (And.intro (lenS (eI .i64) (sortZ p0)) ?_)
    refine Exists.intro none ?_
    refine Exists.intro [.int .i64 ((sortZ p0).length : Int)] (And.intro (lenS (eI .i64) (sortZ p0)) ?_)
    replace h : rank_Of_l3 p0 (0:Int) ([] : List api_Entry) = some r := h
    delta rank_Of_l3 at h
    obtain ⟨n1, h⟩ := loopS h
    refine Exists.intro ⟨(Int × (List api_Entry)) × Nat, fun q => [(.tmp 2, .av (.ptr 0 0)), (.tmp 5, .av (.ptr 1027 0)), (.tmp 19, .av (.own 513)), (.tmp 20, .av (.int .i64 ((sortZ p0).length : Int))), (.tmp 21, .av (.int .i64 q.1.1)), (.box 0, .box [.int .i64 (0:Int), .nilS]), (.box 1027, .box [.int .i64 ((sortZ p0).length : Int), .own 1535]), (.tok 513, .tok 2 1 (List.map (eI .i64) (sortZ p0))), (.tok 1535, .tok 39 3 (List.map enc_api_Entry q.1.2))], fun q => loopN (fun (s : (Int × (List api_Entry))) => rank_Of_l3s p0 s.1 s.2) q.2 q.1 = some r, fun q => q.2⟩ (And.intro (Exists.intro [(1535, none)] (Exists.intro [] (Exists.intro (((0:Int), ([] : List api_Entry)), n1) (And.intro h (And.intro rfl (And.intro rfl (And.intro rfl (And.intro rfl (And.intro rfl (And.intro rfl (And.intro rfl trivial))))))))))) ?_)
    clear h
    refine fun q h => ?_
    obtain ⟨⟨v3_21, v3_b5x3_1⟩, n1⟩ := q
    obtain ⟨m1, x1, hm1, h, hl1, hr1⟩ := loopN_step h
    replace hm1 : n1 = m1 + 1 := hm1
    subst hm1
    replace h : rank_Of_l3s p0 v3_21 v3_b5x3_1 = some x1 := h
    delta rank_Of_l3s at h
    refine Exists.intro none ?_
    refine And.intro (fun g2 => ?_) (fun g2 => ?_)
    · skip
      replace h := cT g2 h
      refine Exists.intro none ?_
      obtain ⟨x8_1, e8_1, h⟩ := bS h
      obtain ⟨x8_2, e8_2, h⟩ := bS h
      refine And.intro (idx_lt (eI .i64) e8_1) ?_
      refine Exists.intro [.int .i64 x8_2] (And.intro (idx_elt (eI .i64) e8_2) ?_)
      refine Exists.intro none ?_
      obtain ⟨k9_9, h⟩ := ckS h
      refine And.intro (by have hh := (of_decide_eq_true k9_9); (try simp only [encZ, fixRows_length, List.length_map, List.length_append, List.length_take, List.length_drop, List.length_set, List.length_replicate, List.length_cons, List.length_nil] at hh); (try simp only [encZ, fixRows_length, List.length_map, List.length_append, List.length_take, List.length_drop, List.length_set, List.length_replicate, List.length_cons, List.length_nil]); (try simp only [w64, wu64] at hh); (try simp only [w64, wu64]); omega) ?_
      refine Exists.intro none ?_
      exact Exists.intro [(1535, some 2057)] (Exists.intro [] (Exists.intro (((w64 (v3_21 + (1:Int))), (v3_b5x3_1 ++ [(api_Entry.mk x8_2 (w64 (v3_21 + (1:Int))) (w64 (v3_21 + (1:Int))))])), m1) (And.intro (hl1 ((w64 (v3_21 + (1:Int))), (v3_b5x3_1 ++ [(api_Entry.mk x8_2 (w64 (v3_21 + (1:Int))) (w64 (v3_21 + (1:Int))))])) (Option.some.inj h).symm) (And.intro (Nat.lt_succ_self m1) (And.intro rfl (And.intro rfl (And.intro rfl (And.intro rfl (And.intro rfl (And.intro rfl (And.intro (by first | rfl | (simp only [encZ, List.map_append, List.map_cons, List.map_nil, List.map_take, List.map_drop, List.map_set, List.map_replicate]; done) | (simp only [encZ, List.map_append, List.map_cons, List.map_nil, List.map_take, List.map_drop, List.map_set, List.map_replicate]; rfl) | (simp only [encZ, List.map_append, List.map_cons, List.map_nil, List.map_take, List.map_drop, List.map_set, List.map_replicate, eL, enc_api_Ranks, enc_api_Recent, enc_api_Answer]; done) | (simp only [encZ, List.map_append, List.map_cons, List.map_nil, List.map_take, List.map_drop, List.map_set, List.map_replicate, eL, enc_api_Ranks, enc_api_Recent, enc_api_Answer]; rfl)) trivial)))))))))))
    · skip
      replace h := cF g2 h
      replace h := popS h hr1
      refine Exists.intro none ?_
      replace h := Option.some.inj h
      first | subst h | rw [← h]
      exact (And.intro rfl (And.intro ff (And.intro rfl (And.intro rfl trivial))))

theorem c_law21_awake (r : Bool) (h : law21_awake = some r) : Contract Try.prog 12 [] [] (.sb r) [] := by
  refine contract_of_vcs tab_ok orders_ok Try.func12 Try.call12 (by kernel_rfl) 0 rfl rfl _ rfl ?_
  delta law21_awake at h
  refine Exists.intro none ?_
  refine Exists.intro none ?_
  obtain ⟨y1_1, e1_1, h⟩ := bS h
  refine Exists.intro (CK.plain _ _) (And.intro (Contract.wk (c_rank_Of [(3:Int), (1:Int)] y1_1 e1_1) (And.intro ff (And.intro (by first | rfl | (simp only [encZ, List.map_append, List.map_cons, List.map_nil, List.map_take, List.map_drop, List.map_set, List.map_replicate]; done) | (simp only [encZ, List.map_append, List.map_cons, List.map_nil, List.map_take, List.map_drop, List.map_set, List.map_replicate]; rfl) | (simp only [encZ, List.map_append, List.map_cons, List.map_nil, List.map_take, List.map_drop, List.map_set, List.map_replicate, eL, enc_api_Ranks, enc_api_Recent, enc_api_Answer]; done) | (simp only [encZ, List.map_append, List.map_cons, List.map_nil, List.map_take, List.map_drop, List.map_set, List.map_replicate, eL, enc_api_Ranks, enc_api_Recent, enc_api_Answer]; rfl)) trivial))) (And.intro rfl ?_))
  refine Exists.intro none ?_
  obtain ⟨x2_16, e2_16, h⟩ := bS h
  refine Exists.intro none ?_
  refine And.intro (fun g1 => ?_) (fun g1 => ?_)
  · skip
    refine And.intro (fun g2 => ?_) (fun g2 => ?_)
    · skip
      refine Exists.intro [.int .i64 (y1_1.1.Entries.length : Int)] (And.intro (lenS enc_api_Entry y1_1.1.Entries) ?_)
      refine And.intro (fun g3 => ?_) (fun g3 => ?_)
      · skip
        refine Exists.intro [.int .i64 x2_16.V, .int .i64 x2_16.Min, .int .i64 x2_16.Max] (And.intro (idx_map enc_api_Entry (gdT (aR (aR g1 g2) g3) e2_16)) ?_)
        replace h := Option.some.inj h
        first | subst h | rw [← h]
        exact (And.intro (Eq.symm (aR (aR (aR g1 g2) g3) rfl)) trivial)
      · skip
        replace h := Option.some.inj h
        first | subst h | rw [← h]
        exact (And.intro (Eq.symm (aL (aR (aR g1 g2) g3))) trivial)
    · skip
      replace h := Option.some.inj h
      first | subst h | rw [← h]
      exact (And.intro (Eq.symm (aL (aL (aR g1 g2)))) trivial)
  · skip
    replace h := Option.some.inj h
    first | subst h | rw [← h]
    exact (And.intro (Eq.symm (aL (aL (aL g1)))) trivial)

theorem c_ref21_Same (p0 : api_Ranks) (p1 : api_Ranks) (r : Bool) (h : ref21_Same p0 p1 = some r) : Contract Try.prog 15 [.agg [.int .i64 p0.N, .lst 3 false (List.map enc_api_Entry p0.Entries)], .agg [.int .i64 p1.N, .lst 3 false (List.map enc_api_Entry p1.Entries)]] [] (.sb r) [] := by
  refine contract_of_vcs tab_ok orders_ok Try.func15 Try.call15 (by kernel_rfl) 0 rfl rfl _ rfl ?_
  delta ref21_Same at h
  refine Exists.intro none ?_
  refine Exists.intro none ?_
  refine Exists.intro none ?_
  refine And.intro (fun g1 => ?_) (fun g1 => ?_)
  · skip
    refine Exists.intro [.int .i64 (p0.Entries.length : Int)] (And.intro (lenS enc_api_Entry p0.Entries) ?_)
    refine Exists.intro [.int .i64 (p1.Entries.length : Int)] (And.intro (lenS enc_api_Entry p1.Entries) ?_)
    refine And.intro (fun g2 => ?_) (fun g2 => ?_)
    · skip
      replace h := cT (oR g1 g2) h
      refine Exists.intro none ?_
      replace h := Option.some.inj h
      first | subst h | rw [← h]
      exact (And.intro rfl trivial)
    · skip
      replace h := cF (oR g1 g2) h
      refine Exists.intro none ?_
      refine Exists.intro [.int .i64 (p0.Entries.length : Int)] (And.intro (lenS enc_api_Entry p0.Entries) ?_)
      replace h : ref21_Same_l3 p0 p1 (0:Int) = some r := h
      delta ref21_Same_l3 at h
      obtain ⟨n1, h⟩ := loopS h
      refine Exists.intro ⟨Int × Nat, fun q => [(.tmp 2, .av (.ptr 0 0)), (.tmp 3, .av (.ptr 1 0)), (.tmp 22, .av (.int .i64 (p0.Entries.length : Int))), (.tmp 23, .av (.int .i64 q.1)), (.box 0, .box [.int .i64 p0.N, .lst 3 false (List.map enc_api_Entry p0.Entries)]), (.box 1, .box [.int .i64 p1.N, .lst 3 false (List.map enc_api_Entry p1.Entries)])], fun q => loopN (fun (s : Int) => ref21_Same_l3s p0 p1 s) q.2 q.1 = some r, fun q => q.2⟩ (And.intro (Exists.intro [] (Exists.intro [] (Exists.intro ((0:Int), n1) (And.intro h (And.intro rfl (And.intro rfl (And.intro rfl (And.intro rfl (And.intro ff (And.intro rfl (And.intro rfl (And.intro ff (And.intro rfl trivial))))))))))))) ?_)
      clear h
      refine fun q h => ?_
      obtain ⟨v3_23, n1⟩ := q
      obtain ⟨m1, x1, hm1, h, hl1, hr1⟩ := loopN_step h
      replace hm1 : n1 = m1 + 1 := hm1
      subst hm1
      replace h : ref21_Same_l3s p0 p1 v3_23 = some x1 := h
      delta ref21_Same_l3s at h
      refine Exists.intro none ?_
      refine And.intro (fun g3 => ?_) (fun g3 => ?_)
      · skip
        replace h := cT g3 h
        refine Exists.intro none ?_
        refine Exists.intro none ?_
        obtain ⟨x6_3, e6_3, h⟩ := bS h
        obtain ⟨x6_8, e6_8, h⟩ := bS h
        refine Exists.intro [.int .i64 x6_3.V, .int .i64 x6_3.Min, .int .i64 x6_3.Max] (And.intro (idx_map enc_api_Entry e6_3) ?_)
        refine Exists.intro [.int .i64 x6_8.V, .int .i64 x6_8.Min, .int .i64 x6_8.Max] (And.intro (idx_map enc_api_Entry e6_8) ?_)
        refine And.intro (fun g4 => ?_) (fun g4 => ?_)
        · skip
          replace h := cT g4 h
          refine Exists.intro none ?_
          replace h := retS h hr1
          first | subst h | rw [← h]
          exact (And.intro rfl trivial)
        · skip
          replace h := cF g4 h
          refine Exists.intro none ?_
          exact Exists.intro [] (Exists.intro [] (Exists.intro ((w64 (v3_23 + (1:Int))), m1) (And.intro (hl1 (w64 (v3_23 + (1:Int))) (Option.some.inj h).symm) (And.intro (Nat.lt_succ_self m1) (And.intro rfl (And.intro rfl (And.intro rfl (And.intro rfl (And.intro ff (And.intro rfl (And.intro rfl (And.intro ff (And.intro rfl trivial)))))))))))))
      · skip
        replace h := cF g3 h
        replace h := popS h hr1
        refine Exists.intro none ?_
        replace h := Option.some.inj h
        first | subst h | rw [← h]
        exact (And.intro rfl trivial)
  · skip
    replace h := cT (oL g1) h
    refine Exists.intro none ?_
    replace h := Option.some.inj h
    first | subst h | rw [← h]
    exact (And.intro rfl trivial)

theorem c_rank_Validate (p0 : api_Ranks) (r : Int) (h : rank_Validate p0 = some r) : Contract Try.prog 16 [.agg [.int .i64 p0.N, .lst 3 false (List.map enc_api_Entry p0.Entries)]] [] (.int .i64 r) [] := by
  refine contract_of_vcs tab_ok orders_ok Try.func16 Try.call16 (by kernel_rfl) 0 rfl rfl _ rfl ?_
  delta rank_Validate at h
  refine Exists.intro none ?_
  refine Exists.intro none ?_
  refine Exists.intro [.int .i64 (p0.Entries.length : Int)] (And.intro (lenS enc_api_Entry p0.Entries) ?_)
  refine Exists.intro none ?_
  refine Exists.intro none ?_
  refine And.intro (fun g1 => ?_) (fun g1 => ?_)
  · skip
    refine And.intro (fun g2 => ?_) (fun g2 => ?_)
    · skip
      refine And.intro (fun g3 => ?_) (fun g3 => ?_)
      · skip
        replace h := cT (oR (oR g1 g2) g3) h
        refine Exists.intro none ?_
        replace h := Option.some.inj h
        first | subst h | rw [← h]
        exact (And.intro rfl trivial)
      · skip
        replace h := cF (oR (oR g1 g2) g3) h
        refine Exists.intro none ?_
        refine Exists.intro [.int .i64 (p0.Entries.length : Int)] (And.intro (lenS enc_api_Entry p0.Entries) ?_)
        replace h : rank_Validate_l3 p0 (0:Int) = some r := h
        delta rank_Validate_l3 at h
        obtain ⟨n1, h⟩ := loopS h
        refine Exists.intro ⟨Int × Nat, fun q => [(.tmp 1, .av (.ptr 0 0)), (.tmp 3, .av (.int .i64 (p0.Entries.length : Int))), (.tmp 27, .av (.lst 3 false (List.map enc_api_Entry p0.Entries))), (.tmp 28, .av (.int .i64 (p0.Entries.length : Int))), (.tmp 29, .av (.int .i64 q.1)), (.box 0, .box [.int .i64 p0.N, .lst 3 false (List.map enc_api_Entry p0.Entries)])], fun q => loopN (fun (s : Int) => rank_Validate_l3s p0 s) q.2 q.1 = some r, fun q => q.2⟩ (And.intro (Exists.intro [] (Exists.intro [] (Exists.intro ((0:Int), n1) (And.intro h (And.intro rfl (And.intro rfl (And.intro ff (And.intro rfl (And.intro rfl (And.intro rfl (And.intro rfl (And.intro ff (And.intro rfl trivial))))))))))))) ?_)
        clear h
        refine fun q h => ?_
        obtain ⟨v3_29, n1⟩ := q
        obtain ⟨m1, x1, hm1, h, hl1, hr1⟩ := loopN_step h
        replace hm1 : n1 = m1 + 1 := hm1
        subst hm1
        replace h : rank_Validate_l3s p0 v3_29 = some x1 := h
        delta rank_Validate_l3s at h
        refine Exists.intro none ?_
        refine And.intro (fun g4 => ?_) (fun g4 => ?_)
        · skip
          replace h := cT g4 h
          refine Exists.intro none ?_
          refine Exists.intro none ?_
          obtain ⟨x6_1, e6_1, h⟩ := bS h
          refine Exists.intro [.int .i64 x6_1.V, .int .i64 x6_1.Min, .int .i64 x6_1.Max] (And.intro (idx_map enc_api_Entry e6_1) ?_)
          refine Exists.intro none ?_
          refine Exists.intro none ?_
          refine And.intro (fun g5 => ?_) (fun g5 => ?_)
          · skip
            refine And.intro (fun g6 => ?_) (fun g6 => ?_)
            · skip
              refine And.intro (fun g7 => ?_) (fun g7 => ?_)
              · skip
                replace h := cT (oR (oR g5 g6) g7) h
                refine Exists.intro none ?_
                replace h := retS h hr1
                first | subst h | rw [← h]
                exact (And.intro rfl trivial)
              · skip
                replace h := cF (oR (oR g5 g6) g7) h
                refine Exists.intro none ?_
                refine Exists.intro none ?_
                refine And.intro (fun g8 => ?_) (fun g8 => ?_)
                · skip
                  replace h := cT g8 h
                  refine Exists.intro none ?_
                  obtain ⟨x10_4, e10_4, h⟩ := bS h
                  refine Exists.intro [.int .i64 x10_4.V, .int .i64 x10_4.Min, .int .i64 x10_4.Max] (And.intro (idx_map enc_api_Entry e10_4) ?_)
                  refine Exists.intro none ?_
                  refine Exists.intro none ?_
                  refine And.intro (fun g9 => ?_) (fun g9 => ?_)
                  · skip
                    refine And.intro (fun g10 => ?_) (fun g10 => ?_)
                    · skip
                      refine And.intro (fun g11 => ?_) (fun g11 => ?_)
                      · skip
                        replace h := cT (oR (oR g9 g10) g11) h
                        refine Exists.intro none ?_
                        replace h := retS h hr1
                        first | subst h | rw [← h]
                        exact (And.intro rfl trivial)
                      · skip
                        replace h := cF (oR (oR g9 g10) g11) h
                        refine Exists.intro none ?_
                        exact Exists.intro [] (Exists.intro [] (Exists.intro ((w64 (v3_29 + (1:Int))), m1) (And.intro (hl1 (w64 (v3_29 + (1:Int))) (Option.some.inj h).symm) (And.intro (Nat.lt_succ_self m1) (And.intro rfl (And.intro rfl (And.intro ff (And.intro rfl (And.intro rfl (And.intro rfl (And.intro rfl (And.intro ff (And.intro rfl trivial)))))))))))))
                    · skip
                      replace h := cT (oL (oR g9 g10)) h
                      refine Exists.intro none ?_
                      replace h := retS h hr1
                      first | subst h | rw [← h]
                      exact (And.intro rfl trivial)
                  · skip
                    replace h := cT (oL (oL g9)) h
                    refine Exists.intro none ?_
                    replace h := retS h hr1
                    first | subst h | rw [← h]
                    exact (And.intro rfl trivial)
                · skip
                  replace h := cF g8 h
                  refine Exists.intro none ?_
                  exact Exists.intro [] (Exists.intro [] (Exists.intro ((w64 (v3_29 + (1:Int))), m1) (And.intro (hl1 (w64 (v3_29 + (1:Int))) (Option.some.inj h).symm) (And.intro (Nat.lt_succ_self m1) (And.intro rfl (And.intro rfl (And.intro ff (And.intro rfl (And.intro rfl (And.intro rfl (And.intro rfl (And.intro ff (And.intro rfl trivial)))))))))))))
            · skip
              replace h := cT (oL (oR g5 g6)) h
              refine Exists.intro none ?_
              replace h := retS h hr1
              first | subst h | rw [← h]
              exact (And.intro rfl trivial)
          · skip
            replace h := cT (oL (oL g5)) h
            refine Exists.intro none ?_
            replace h := retS h hr1
            first | subst h | rw [← h]
            exact (And.intro rfl trivial)
        · skip
          replace h := cF g4 h
          replace h := popS h hr1
          refine Exists.intro none ?_
          obtain ⟨x14_5, e14_5, h⟩ := bS h
          obtain ⟨x14_14, e14_14, h⟩ := bS h
          refine Exists.intro (some (⟨Unit, fun _ => [(.tmp 100, .av (.sb ((decide ((p0.Entries.length : Int) > (0:Int))) && ((x14_5.Max != (1:Int)) || (x14_14.Min != p0.N)))))], fun _ => True, fun _ => 0⟩, 1000000)) (And.intro ?_ (fun _ _ => ?_))
          · skip
            refine And.intro (fun g12 => ?_) (fun g12 => ?_)
            · skip
              refine Exists.intro [.int .i64 x14_5.V, .int .i64 x14_5.Min, .int .i64 x14_5.Max] (And.intro (idx_map enc_api_Entry (gdT g12 e14_5)) ?_)
              refine And.intro (fun g13 => ?_) (fun g13 => ?_)
              · skip
                refine Exists.intro [.int .i64 x14_14.V, .int .i64 x14_14.Min, .int .i64 x14_14.Max] (And.intro (idx_map enc_api_Entry (gdT (aR g12 (nE g13)) e14_14)) ?_)
                exact Exists.intro [] (Exists.intro [] (Exists.intro () (And.intro trivial (And.intro rfl (And.intro (Eq.symm (aR g12 (oR g13 rfl))) trivial)))))
              · skip
                exact Exists.intro [] (Exists.intro [] (Exists.intro () (And.intro trivial (And.intro rfl (And.intro (Eq.symm (aR g12 (oL g13))) trivial)))))
            · skip
              exact Exists.intro [] (Exists.intro [] (Exists.intro () (And.intro trivial (And.intro rfl (And.intro (Eq.symm (aL g12)) trivial)))))
          · skip
            refine And.intro (fun g14 => ?_) (fun g14 => ?_)
            · skip
              replace h := cT g14 h
              refine Exists.intro none ?_
              replace h := Option.some.inj h
              first | subst h | rw [← h]
              exact (And.intro rfl trivial)
            · skip
              replace h := cF g14 h
              refine Exists.intro none ?_
              replace h := Option.some.inj h
              first | subst h | rw [← h]
              exact (And.intro rfl trivial)
    · skip
      replace h := cT (oL (oR g1 g2)) h
      refine Exists.intro none ?_
      replace h := Option.some.inj h
      first | subst h | rw [← h]
      exact (And.intro rfl trivial)
  · skip
    replace h := cT (oL (oL g1)) h
    refine Exists.intro none ?_
    replace h := Option.some.inj h
    first | subst h | rw [← h]
    exact (And.intro rfl trivial)

theorem c_rank_Gap (p0 : api_Ranks) (r : Int) (h : rank_Gap p0 = some r) : Contract Try.prog 17 [.agg [.int .i64 p0.N, .lst 3 false (List.map enc_api_Entry p0.Entries)]] [] (.int .i64 r) [] := by
  refine contract_of_vcs tab_ok orders_ok Try.func17 Try.call17 (by kernel_rfl) 0 rfl rfl _ rfl ?_
  delta rank_Gap at h
  refine Exists.intro none ?_
  refine Exists.intro none ?_
  obtain ⟨y1_1, e1_1, h⟩ := bS h
  refine Exists.intro none ?_
  refine Exists.intro (CK.plain _ _) (And.intro (Contract.wk (c_rank_Validate p0 y1_1 e1_1) (And.intro rfl (And.intro ff (And.intro rfl trivial)))) (And.intro rfl ?_))
  refine And.intro (fun g1 => ?_) (fun g1 => ?_)
  · skip
    refine Exists.intro [.int .i64 (p0.Entries.length : Int)] (And.intro (lenS enc_api_Entry p0.Entries) ?_)
    refine And.intro (fun g2 => ?_) (fun g2 => ?_)
    · skip
      replace h := cT (oR g1 g2) h
      refine Exists.intro none ?_
      replace h := Option.some.inj h
      first | subst h | rw [← h]
      exact (And.intro rfl trivial)
    · skip
      replace h := cF (oR g1 g2) h
      refine Exists.intro none ?_
      refine Exists.intro none ?_
      replace h : rank_Gap_l3 p0 (1:Int) (1:Int) = some r := h
      delta rank_Gap_l3 at h
      obtain ⟨n1, h⟩ := loopS h
      refine Exists.intro ⟨(Int × Int) × Nat, fun q => [(.tmp 1, .av (.ptr 0 0)), (.tmp 3, .av (.int .i64 q.1.1)), (.tmp 4, .av (.int .i64 q.1.2)), (.box 0, .box [.int .i64 p0.N, .lst 3 false (List.map enc_api_Entry p0.Entries)])], fun q => loopN (fun (s : (Int × Int)) => rank_Gap_l3s p0 s.1 s.2) q.2 q.1 = some r, fun q => q.2⟩ (And.intro (Exists.intro [] (Exists.intro [] (Exists.intro (((1:Int), (1:Int)), n1) (And.intro h (And.intro rfl (And.intro rfl (And.intro rfl (And.intro rfl (And.intro ff (And.intro rfl trivial)))))))))) ?_)
      clear h
      refine fun q h => ?_
      obtain ⟨⟨v3_3, v3_4⟩, n1⟩ := q
      obtain ⟨m1, x1, hm1, h, hl1, hr1⟩ := loopN_step h
      replace hm1 : n1 = m1 + 1 := hm1
      subst hm1
      replace h : rank_Gap_l3s p0 v3_3 v3_4 = some x1 := h
      delta rank_Gap_l3s at h
      refine Exists.intro none ?_
      refine Exists.intro [.int .i64 (p0.Entries.length : Int)] (And.intro (lenS enc_api_Entry p0.Entries) ?_)
      refine And.intro (fun g3 => ?_) (fun g3 => ?_)
      · skip
        replace h := cT g3 h
        refine Exists.intro none ?_
        obtain ⟨x7_4, e7_4, h⟩ := bS h
        obtain ⟨x7_11, e7_11, h⟩ := bS h
        refine Exists.intro [.int .i64 x7_4.V, .int .i64 x7_4.Min, .int .i64 x7_4.Max] (And.intro (idx_map enc_api_Entry e7_4) ?_)
        refine Exists.intro [.int .i64 x7_11.V, .int .i64 x7_11.Min, .int .i64 x7_11.Max] (And.intro (idx_map enc_api_Entry e7_11) ?_)
        refine Exists.intro none ?_
        exact Exists.intro [] (Exists.intro [] (Exists.intro (((imax v3_3 (w64 (x7_4.Max - x7_11.Min))), (w64 (v3_4 + (1:Int)))), m1) (And.intro (hl1 ((imax v3_3 (w64 (x7_4.Max - x7_11.Min))), (w64 (v3_4 + (1:Int)))) (Option.some.inj h).symm) (And.intro (Nat.lt_succ_self m1) (And.intro rfl (And.intro rfl (And.intro rfl (And.intro rfl (And.intro ff (And.intro rfl trivial))))))))))
      · skip
        replace h := cF g3 h
        replace h := popS h hr1
        refine Exists.intro none ?_
        replace h := Option.some.inj h
        first | subst h | rw [← h]
        exact (And.intro rfl trivial)
  · skip
    replace h := cT (oL g1) h
    refine Exists.intro none ?_
    replace h := Option.some.inj h
    first | subst h | rw [← h]
    exact (And.intro rfl trivial)

theorem c_law21_few' (p0 : api_Ranks) (r : Bool) (h : law21_few p0 = r) : Contract Try.prog 18 [.agg [.int .i64 p0.N, .lst 3 false (List.map enc_api_Entry p0.Entries)]] [] (.sb r) [] := by
  refine contract_of_vcs tab_ok orders_ok Try.func18 Try.call18 (by kernel_rfl) 0 rfl rfl _ rfl ?_
  delta law21_few at h
  refine Exists.intro none ?_
  refine Exists.intro none ?_
  refine Exists.intro [.int .i64 (p0.Entries.length : Int)] (And.intro (lenS enc_api_Entry p0.Entries) ?_)
  first | subst h | rw [← h]
  exact (And.intro rfl trivial)
theorem c_law21_few (p0 : api_Ranks) : Contract Try.prog 18 [.agg [.int .i64 p0.N, .lst 3 false (List.map enc_api_Entry p0.Entries)]] [] (.sb (law21_few p0)) [] := c_law21_few' p0 (law21_few p0) rfl

theorem c_ref21_Validate (p0 : api_Ranks) (r : Int) (h : ref21_Validate p0 = some r) : Contract Try.prog 19 [.agg [.int .i64 p0.N, .lst 3 false (List.map enc_api_Entry p0.Entries)]] [] (.int .i64 r) [] := by
  refine contract_of_vcs tab_ok orders_ok Try.func19 Try.call19 (by kernel_rfl) 0 rfl rfl _ rfl ?_
  delta ref21_Validate at h
  refine Exists.intro none ?_
  refine Exists.intro none ?_
  refine Exists.intro none ?_
  refine And.intro (fun g1 => ?_) (fun g1 => ?_)
  · skip
    refine And.intro (fun g2 => ?_) (fun g2 => ?_)
    · skip
      refine Exists.intro [.int .i64 (p0.Entries.length : Int)] (And.intro (lenS enc_api_Entry p0.Entries) ?_)
      refine And.intro (fun g3 => ?_) (fun g3 => ?_)
      · skip
        replace h := cT (oR (oR g1 g2) g3) h
        refine Exists.intro none ?_
        replace h := Option.some.inj h
        first | subst h | rw [← h]
        exact (And.intro rfl trivial)
      · skip
        replace h := cF (oR (oR g1 g2) g3) h
        refine Exists.intro none ?_
        refine Exists.intro [.int .i64 (p0.Entries.length : Int)] (And.intro (lenS enc_api_Entry p0.Entries) ?_)
        replace h : ref21_Validate_l3 p0 (0:Int) = some r := h
        delta ref21_Validate_l3 at h
        obtain ⟨n1, h⟩ := loopS h
        refine Exists.intro ⟨Int × Nat, fun q => [(.tmp 1, .av (.ptr 0 0)), (.tmp 25, .av (.lst 3 false (List.map enc_api_Entry p0.Entries))), (.tmp 26, .av (.int .i64 (p0.Entries.length : Int))), (.tmp 27, .av (.int .i64 q.1)), (.box 0, .box [.int .i64 p0.N, .lst 3 false (List.map enc_api_Entry p0.Entries)])], fun q => loopN (fun (s : Int) => ref21_Validate_l3s p0 s) q.2 q.1 = some r, fun q => q.2⟩ (And.intro (Exists.intro [] (Exists.intro [] (Exists.intro ((0:Int), n1) (And.intro h (And.intro rfl (And.intro ff (And.intro rfl (And.intro rfl (And.intro rfl (And.intro rfl (And.intro ff (And.intro rfl trivial)))))))))))) ?_)
        clear h
        refine fun q h => ?_
        obtain ⟨v3_27, n1⟩ := q
        obtain ⟨m1, x1, hm1, h, hl1, hr1⟩ := loopN_step h
        replace hm1 : n1 = m1 + 1 := hm1
        subst hm1
        replace h : ref21_Validate_l3s p0 v3_27 = some x1 := h
        delta ref21_Validate_l3s at h
        refine Exists.intro none ?_
        refine And.intro (fun g4 => ?_) (fun g4 => ?_)
        · skip
          replace h := cT g4 h
          refine Exists.intro none ?_
          refine Exists.intro none ?_
          obtain ⟨x5_1, e5_1, h⟩ := bS h
          refine Exists.intro [.int .i64 x5_1.V, .int .i64 x5_1.Min, .int .i64 x5_1.Max] (And.intro (idx_map enc_api_Entry e5_1) ?_)
          refine Exists.intro none ?_
          refine Exists.intro (some (⟨Unit, fun _ => [(.tmp 1, .av (.ptr 0 0)), (.tmp 3, .av (.int .i64 v3_27)), (.tmp 4, .av (.ptr 1027 0)), (.tmp 25, .av (.lst 3 false (List.map enc_api_Entry p0.Entries))), (.tmp 26, .av (.int .i64 (p0.Entries.length : Int))), (.tmp 27, .av (.int .i64 v3_27)), (.tmp 72, .av (.sb (((((decide (x5_1.Min < (1:Int))) || (decide (x5_1.Min > x5_1.Max))) || (decide (x5_1.Max > p0.N))) || ((v3_27 == (0:Int)) && (x5_1.Max != (1:Int)))) || ((v3_27 == (w64 ((p0.Entries.length : Int) - (1:Int)))) && (x5_1.Min != p0.N))))), (.box 0, .box [.int .i64 p0.N, .lst 3 false (List.map enc_api_Entry p0.Entries)]), (.box 1027, .box [.int .i64 x5_1.V, .int .i64 x5_1.Min, .int .i64 x5_1.Max])], fun _ => True, fun _ => 0⟩, 1000000)) (And.intro ?_ (fun _ _ => ?_))
          · skip
            refine And.intro (fun g5 => ?_) (fun g5 => ?_)
            · skip
              refine And.intro (fun g6 => ?_) (fun g6 => ?_)
              · skip
                refine And.intro (fun g7 => ?_) (fun g7 => ?_)
                · skip
                  refine And.intro (fun g8 => ?_) (fun g8 => ?_)
                  · skip
                    refine And.intro (fun g9 => ?_) (fun g9 => ?_)
                    · skip
                      refine Exists.intro [.int .i64 (p0.Entries.length : Int)] (And.intro (lenS enc_api_Entry p0.Entries) ?_)
                      refine And.intro (fun g10 => ?_) (fun g10 => ?_)
                      · skip
                        exact Exists.intro [] (Exists.intro [] (Exists.intro () (And.intro trivial (And.intro rfl (And.intro rfl (And.intro ff (And.intro rfl (And.intro rfl (And.intro rfl (And.intro (Eq.symm (oR (oR (oR (oR g5 g6) g7) (aR g8 g9)) (aR g10 rfl))) (And.intro rfl (And.intro ff (And.intro rfl (And.intro rfl (And.intro rfl (And.intro rfl trivial))))))))))))))))
                      · skip
                        exact Exists.intro [] (Exists.intro [] (Exists.intro () (And.intro trivial (And.intro rfl (And.intro rfl (And.intro ff (And.intro rfl (And.intro rfl (And.intro rfl (And.intro (Eq.symm (oR (oR (oR (oR g5 g6) g7) (aR g8 g9)) (aL g10))) (And.intro rfl (And.intro ff (And.intro rfl (And.intro rfl (And.intro rfl (And.intro rfl trivial))))))))))))))))
                    · skip
                      exact Exists.intro [] (Exists.intro [] (Exists.intro () (And.intro trivial (And.intro rfl (And.intro rfl (And.intro ff (And.intro rfl (And.intro rfl (And.intro rfl (And.intro (Eq.symm (oL (oR (oR (oR g5 g6) g7) (aR g8 g9)))) (And.intro rfl (And.intro ff (And.intro rfl (And.intro rfl (And.intro rfl (And.intro rfl trivial))))))))))))))))
                  · skip
                    refine Exists.intro [.int .i64 (p0.Entries.length : Int)] (And.intro (lenS enc_api_Entry p0.Entries) ?_)
                    refine And.intro (fun g11 => ?_) (fun g11 => ?_)
                    · skip
                      exact Exists.intro [] (Exists.intro [] (Exists.intro () (And.intro trivial (And.intro rfl (And.intro rfl (And.intro ff (And.intro rfl (And.intro rfl (And.intro rfl (And.intro (Eq.symm (oR (oR (oR (oR g5 g6) g7) (aL g8)) (aR g11 rfl))) (And.intro rfl (And.intro ff (And.intro rfl (And.intro rfl (And.intro rfl (And.intro rfl trivial))))))))))))))))
                    · skip
                      exact Exists.intro [] (Exists.intro [] (Exists.intro () (And.intro trivial (And.intro rfl (And.intro rfl (And.intro ff (And.intro rfl (And.intro rfl (And.intro rfl (And.intro (Eq.symm (oR (oR (oR (oR g5 g6) g7) (aL g8)) (aL g11))) (And.intro rfl (And.intro ff (And.intro rfl (And.intro rfl (And.intro rfl (And.intro rfl trivial))))))))))))))))
                · skip
                  exact Exists.intro [] (Exists.intro [] (Exists.intro () (And.intro trivial (And.intro rfl (And.intro rfl (And.intro ff (And.intro rfl (And.intro rfl (And.intro rfl (And.intro (Eq.symm (oL (oL (oR (oR g5 g6) g7)))) (And.intro rfl (And.intro ff (And.intro rfl (And.intro rfl (And.intro rfl (And.intro rfl trivial))))))))))))))))
              · skip
                exact Exists.intro [] (Exists.intro [] (Exists.intro () (And.intro trivial (And.intro rfl (And.intro rfl (And.intro ff (And.intro rfl (And.intro rfl (And.intro rfl (And.intro (Eq.symm (oL (oL (oL (oR g5 g6))))) (And.intro rfl (And.intro ff (And.intro rfl (And.intro rfl (And.intro rfl (And.intro rfl trivial))))))))))))))))
            · skip
              exact Exists.intro [] (Exists.intro [] (Exists.intro () (And.intro trivial (And.intro rfl (And.intro rfl (And.intro ff (And.intro rfl (And.intro rfl (And.intro rfl (And.intro (Eq.symm (oL (oL (oL (oL g5))))) (And.intro rfl (And.intro ff (And.intro rfl (And.intro rfl (And.intro rfl (And.intro rfl trivial))))))))))))))))
          · skip
            refine And.intro (fun g12 => ?_) (fun g12 => ?_)
            · skip
              replace h := cT g12 h
              refine Exists.intro none ?_
              replace h := retS h hr1
              first | subst h | rw [← h]
              exact (And.intro rfl trivial)
            · skip
              replace h := cF g12 h
              refine Exists.intro none ?_
              refine Exists.intro none ?_
              refine And.intro (fun g13 => ?_) (fun g13 => ?_)
              · skip
                replace h := cT g13 h
                refine Exists.intro none ?_
                obtain ⟨x9_4, e9_4, h⟩ := bS h
                refine Exists.intro [.int .i64 x9_4.V, .int .i64 x9_4.Min, .int .i64 x9_4.Max] (And.intro (idx_map enc_api_Entry e9_4) ?_)
                refine Exists.intro none ?_
                refine Exists.intro none ?_
                refine And.intro (fun g14 => ?_) (fun g14 => ?_)
                · skip
                  refine And.intro (fun g15 => ?_) (fun g15 => ?_)
                  · skip
                    refine And.intro (fun g16 => ?_) (fun g16 => ?_)
                    · skip
                      replace h := cT (oR (oR g14 g15) g16) h
                      refine Exists.intro none ?_
                      replace h := retS h hr1
                      first | subst h | rw [← h]
                      exact (And.intro rfl trivial)
                    · skip
                      replace h := cF (oR (oR g14 g15) g16) h
                      refine Exists.intro none ?_
                      exact Exists.intro [] (Exists.intro [] (Exists.intro ((w64 (v3_27 + (1:Int))), m1) (And.intro (hl1 (w64 (v3_27 + (1:Int))) (Option.some.inj h).symm) (And.intro (Nat.lt_succ_self m1) (And.intro rfl (And.intro ff (And.intro rfl (And.intro rfl (And.intro rfl (And.intro rfl (And.intro ff (And.intro rfl trivial))))))))))))
                  · skip
                    replace h := cT (oL (oR g14 g15)) h
                    refine Exists.intro none ?_
                    replace h := retS h hr1
                    first | subst h | rw [← h]
                    exact (And.intro rfl trivial)
                · skip
                  replace h := cT (oL (oL g14)) h
                  refine Exists.intro none ?_
                  replace h := retS h hr1
                  first | subst h | rw [← h]
                  exact (And.intro rfl trivial)
              · skip
                replace h := cF g13 h
                refine Exists.intro none ?_
                exact Exists.intro [] (Exists.intro [] (Exists.intro ((w64 (v3_27 + (1:Int))), m1) (And.intro (hl1 (w64 (v3_27 + (1:Int))) (Option.some.inj h).symm) (And.intro (Nat.lt_succ_self m1) (And.intro rfl (And.intro ff (And.intro rfl (And.intro rfl (And.intro rfl (And.intro rfl (And.intro ff (And.intro rfl trivial))))))))))))
        · skip
          replace h := cF g4 h
          replace h := popS h hr1
          refine Exists.intro none ?_
          replace h := Option.some.inj h
          first | subst h | rw [← h]
          exact (And.intro rfl trivial)
    · skip
      replace h := cT (oL (oR g1 g2)) h
      refine Exists.intro none ?_
      replace h := Option.some.inj h
      first | subst h | rw [← h]
      exact (And.intro rfl trivial)
  · skip
    replace h := cT (oL (oL g1)) h
    refine Exists.intro none ?_
    replace h := Option.some.inj h
    first | subst h | rw [← h]
    exact (And.intro rfl trivial)

theorem c_rank_far' (p0 : api_Entry) (p1 : Int) (r : Int) (h : rank_far p0 p1 = r) : Contract Try.prog 85 [.agg [.int .i64 p0.V, .int .i64 p0.Min, .int .i64 p0.Max], .int .i64 p1] [] (.int .i64 r) [] := by
  refine contract_of_vcs tab_ok orders_ok Try.func85 Try.call85 (by kernel_rfl) 0 rfl rfl _ rfl ?_
  delta rank_far at h
  refine Exists.intro none ?_
  refine Exists.intro none ?_
  first | subst h | rw [← h]
  exact (And.intro rfl trivial)
theorem c_rank_far (p0 : api_Entry) (p1 : Int) : Contract Try.prog 85 [.agg [.int .i64 p0.V, .int .i64 p0.Min, .int .i64 p0.Max], .int .i64 p1] [] (.int .i64 (rank_far p0 p1)) [] := c_rank_far' p0 p1 (rank_far p0 p1) rfl

theorem c_rank_place (p0 : (List api_Entry)) (p1 : Int) (p2 : Int) (r : Int) (h : rank_place p0 p1 p2 = some r) : Contract Try.prog 52 [.lst 3 false (List.map enc_api_Entry p0), .int .i64 p1, .int .i64 p2] [] (.int .i64 r) [] := by
  refine contract_of_vcs tab_ok orders_ok Try.func52 Try.call52 (by kernel_rfl) 0 rfl rfl _ rfl ?_
  delta rank_place at h
  refine Exists.intro none ?_
  replace h : rank_place_l2 p0 p1 p2 = some r := h
  delta rank_place_l2 at h
  obtain ⟨n1, h⟩ := loopS h
  refine Exists.intro ⟨Int × Nat, fun q => [(.tmp 0, .av (.lst 3 false (List.map enc_api_Entry p0))), (.tmp 1, .av (.int .i64 p1)), (.tmp 2, .av (.int .i64 q.1))], fun q => loopN (fun (s : Int) => rank_place_l2s p0 p1 s) q.2 q.1 = some r, fun q => q.2⟩ (And.intro (Exists.intro [] (Exists.intro [] (Exists.intro (p2, n1) (And.intro h (And.intro rfl (And.intro ff (And.intro rfl (And.intro rfl (And.intro rfl trivial))))))))) ?_)
  clear h
  refine fun q h => ?_
  obtain ⟨v2_2, n1⟩ := q
  obtain ⟨m1, x1, hm1, h, hl1, hr1⟩ := loopN_step h
  replace hm1 : n1 = m1 + 1 := hm1
  subst hm1
  replace h : rank_place_l2s p0 p1 v2_2 = some x1 := h
  delta rank_place_l2s at h
  refine Exists.intro none ?_
  obtain ⟨x1_9, e1_9, h⟩ := bS h
  obtain ⟨x1_15, e1_15, h⟩ := bS h
  refine Exists.intro (some (⟨Unit, fun _ => [(.tmp 0, .av (.lst 3 false (List.map enc_api_Entry p0))), (.tmp 1, .av (.int .i64 p1)), (.tmp 2, .av (.int .i64 v2_2)), (.tmp 27, .av (.sb ((decide ((w64 (v2_2 + (1:Int))) < (p0.length : Int))) && (decide ((rank_far x1_9 p1) < (rank_far x1_15 p1))))))], fun _ => True, fun _ => 0⟩, 1000000)) (And.intro ?_ (fun _ _ => ?_))
  · skip
    refine Exists.intro [.int .i64 (p0.length : Int)] (And.intro (lenS enc_api_Entry p0) ?_)
    refine And.intro (fun g1 => ?_) (fun g1 => ?_)
    · skip
      refine Exists.intro [.int .i64 x1_9.V, .int .i64 x1_9.Min, .int .i64 x1_9.Max] (And.intro (idx_map enc_api_Entry (gdT g1 e1_9)) ?_)
      refine Exists.intro (CK.plain _ _) (And.intro (Contract.wk (c_rank_far x1_9 p1) (And.intro rfl (And.intro rfl (And.intro rfl (And.intro rfl trivial))))) (And.intro rfl ?_))
      refine Exists.intro [.int .i64 x1_15.V, .int .i64 x1_15.Min, .int .i64 x1_15.Max] (And.intro (idx_map enc_api_Entry (gdT g1 e1_15)) ?_)
      refine Exists.intro (CK.plain _ _) (And.intro (Contract.wk (c_rank_far x1_15 p1) (And.intro rfl (And.intro rfl (And.intro rfl (And.intro rfl trivial))))) (And.intro rfl ?_))
      exact Exists.intro [] (Exists.intro [] (Exists.intro () (And.intro trivial (And.intro rfl (And.intro ff (And.intro rfl (And.intro rfl (And.intro rfl (And.intro (Eq.symm (aR g1 rfl)) trivial)))))))))
    · skip
      exact Exists.intro [] (Exists.intro [] (Exists.intro () (And.intro trivial (And.intro rfl (And.intro ff (And.intro rfl (And.intro rfl (And.intro rfl (And.intro (Eq.symm (aL g1)) trivial)))))))))
  · skip
    refine And.intro (fun g2 => ?_) (fun g2 => ?_)
    · skip
      replace h := cT g2 h
      refine Exists.intro none ?_
      exact Exists.intro [] (Exists.intro [] (Exists.intro ((w64 (v2_2 + (1:Int))), m1) (And.intro (hl1 (w64 (v2_2 + (1:Int))) (Option.some.inj h).symm) (And.intro (Nat.lt_succ_self m1) (And.intro rfl (And.intro ff (And.intro rfl (And.intro rfl (And.intro rfl trivial)))))))))
    · skip
      replace h := cF g2 h
      replace h := popS h hr1
      refine Exists.intro none ?_
      replace h := Option.some.inj h
      first | subst h | rw [← h]
      exact (And.intro rfl trivial)

theorem c_rank_copied (p0 : api_Ranks) (r : api_Ranks) (h : rank_copied p0 = some r) : Contract Try.prog 53 [.agg [.int .i64 p0.N, .lst 3 false (List.map enc_api_Entry p0.Entries)]] [] (.agg [.int .i64 r.N, .lst 3 false (List.map enc_api_Entry r.Entries)]) [] := by
  refine contract_of_vcs tab_ok orders_ok Try.func53 Try.call53 (by kernel_rfl) 0 rfl rfl _ rfl ?_
  delta rank_copied at h
  refine Exists.intro none ?_
  refine Exists.intro none ?_
  obtain ⟨k1_5, h⟩ := ckS h
  refine And.intro (by have hh := (of_decide_eq_true k1_5); (try simp only [encZ, fixRows_length, List.length_map, List.length_append, List.length_take, List.length_drop, List.length_set, List.length_replicate, List.length_cons, List.length_nil] at hh); (try simp only [encZ, fixRows_length, List.length_map, List.length_append, List.length_take, List.length_drop, List.length_set, List.length_replicate, List.length_cons, List.length_nil]); (try simp only [w64, wu64] at hh); (try simp only [w64, wu64]); omega) ?_
  replace h := Option.some.inj h
  first | subst h | rw [← h]
  exact (And.intro rfl (And.intro ff (And.intro (by first | rfl | (simp only [encZ, List.map_append, List.map_cons, List.map_nil, List.map_take, List.map_drop, List.map_set, List.map_replicate]; done) | (simp only [encZ, List.map_append, List.map_cons, List.map_nil, List.map_take, List.map_drop, List.map_set, List.map_replicate]; rfl) | (simp only [encZ, List.map_append, List.map_cons, List.map_nil, List.map_take, List.map_drop, List.map_set, List.map_replicate, eL, enc_api_Ranks, enc_api_Recent, enc_api_Answer]; done) | (simp only [encZ, List.map_append, List.map_cons, List.map_nil, List.map_take, List.map_drop, List.map_set, List.map_replicate, eL, enc_api_Ranks, enc_api_Recent, enc_api_Answer]; rfl)) trivial)))

theorem c_rank_Prune (p0 : api_Ranks) (p1 : Int) (r : (api_Ranks × Int)) (h : rank_Prune p0 p1 = some r) : Contract Try.prog 23 [.agg [.int .i64 p0.N, .lst 3 false (List.map enc_api_Entry p0.Entries)], .int .i64 p1] [] (.tup [.agg [.int .i64 r.1.N, .lst 3 false (List.map enc_api_Entry r.1.Entries)], .int .i64 r.2]) [] := by
  refine contract_of_vcs tab_ok orders_ok Try.func23 Try.call23 (by kernel_rfl) 0 rfl rfl _ rfl ?_
  delta rank_Prune at h
  refine Exists.intro none ?_
  refine Exists.intro none ?_
  obtain ⟨y1_1, e1_1, h⟩ := bS h
  refine Exists.intro (CK.plain _ _) (And.intro (Contract.wk (c_rank_Validate p0 y1_1 e1_1) (And.intro rfl (And.intro ff (And.intro rfl trivial)))) (And.intro rfl ?_))
  refine Exists.intro none ?_
  refine And.intro (fun g1 => ?_) (fun g1 => ?_)
  · skip
    replace h := cT g1 h
    refine Exists.intro none ?_
    replace h := Option.some.inj h
    first | subst h | rw [← h]
    exact (And.intro rfl (And.intro rfl (And.intro rfl trivial)))
  · skip
    replace h := cF g1 h
    refine Exists.intro none ?_
    refine Exists.intro none ?_
    refine And.intro (fun g2 => ?_) (fun g2 => ?_)
    · skip
      refine And.intro (fun g3 => ?_) (fun g3 => ?_)
      · skip
        replace h := cT (oR g2 g3) h
        refine Exists.intro none ?_
        replace h := Option.some.inj h
        first | subst h | rw [← h]
        exact (And.intro rfl (And.intro rfl (And.intro rfl trivial)))
      · skip
        replace h := cF (oR g2 g3) h
        refine Exists.intro none ?_
        refine Exists.intro [.int .i64 (p0.Entries.length : Int)] (And.intro (lenS enc_api_Entry p0.Entries) ?_)
        refine And.intro (fun g4 => ?_) (fun g4 => ?_)
        · skip
          replace h := cT g4 h
          refine Exists.intro none ?_
          obtain ⟨y7_1, e7_1, h⟩ := bS h
          refine Exists.intro (CK.plain _ _) (And.intro (Contract.wk (c_rank_copied p0 y7_1 e7_1) (And.intro rfl (And.intro ff (And.intro rfl trivial)))) (And.intro rfl ?_))
          replace h := Option.some.inj h
          first | subst h | rw [← h]
          exact (And.intro rfl (And.intro ff (And.intro rfl (And.intro rfl trivial))))
        · skip
          replace h := cF g4 h
          refine Exists.intro none ?_
          refine Exists.intro none ?_
          refine Exists.intro none ?_
          replace h : rank_Prune_l5 p0 p1 (-1:Int) (0:Int) (0:Int) ([] : List api_Entry) = some r := h
          delta rank_Prune_l5 at h
          obtain ⟨n1, h⟩ := loopS h
          refine Exists.intro ⟨(Int × Int × Int × (List api_Entry)) × Nat, fun q => [(.tmp 1, .av (.int .i64 p1)), (.tmp 2, .av (.ptr 0 0)), (.tmp 4, .av (.ptr 1 0)), (.tmp 7, .av (.ptr 1283 0)), (.tmp 8, .av (.int .i64 q.1.1)), (.tmp 9, .av (.int .i64 q.1.2.1)), (.tmp 10, .av (.int .i64 q.1.2.2.1)), (.box 0, .box [.int .i64 p0.N, .lst 3 false (List.map enc_api_Entry p0.Entries)]), (.box 1, .box [.int .i64 (0:Int), .nilS]), (.box 1283, .box [.int .i64 p0.N, .own 2047]), (.tok 2047, .tok 39 3 (List.map enc_api_Entry q.1.2.2.2))], fun q => loopN (fun (s : (Int × Int × Int × (List api_Entry))) => rank_Prune_l5s p0 p1 s.1 s.2.1 s.2.2.1 s.2.2.2) q.2 q.1 = some r, fun q => q.2⟩ (And.intro (Exists.intro [(2047, none)] (Exists.intro [] (Exists.intro (((-1:Int), (0:Int), (0:Int), ([] : List api_Entry)), n1) (And.intro h (And.intro rfl (And.intro rfl (And.intro rfl (And.intro rfl (And.intro rfl (And.intro rfl (And.intro ff (And.intro rfl (And.intro rfl (And.intro rfl (And.intro rfl trivial))))))))))))))) ?_)
          clear h
          refine fun q h => ?_
          obtain ⟨⟨v5_8, v5_9, v5_10, v5_b8x3_1⟩, n1⟩ := q
          obtain ⟨m1, x1, hm1, h, hl1, hr1⟩ := loopN_step h
          replace hm1 : n1 = m1 + 1 := hm1
          subst hm1
          replace h : rank_Prune_l5s p0 p1 v5_8 v5_9 v5_10 v5_b8x3_1 = some x1 := h
          delta rank_Prune_l5s at h
          refine Exists.intro none ?_
          refine And.intro (fun g5 => ?_) (fun g5 => ?_)
          · skip
            replace h := cT g5 h
            refine Exists.intro none ?_
            refine Exists.intro none ?_
            obtain ⟨k13_8, h⟩ := ckS h
            obtain ⟨y13_11, e13_11, h⟩ := bS h
            refine And.intro (of_decide_eq_true k13_8) ?_
            refine Exists.intro (CK.plain _ _) (And.intro (Contract.wk (c_rank_place p0.Entries (w64 ((1:Int) + (w64 (Int.tdiv (w64 (v5_10 * (w64 (p0.N - (1:Int))))) p1)))) v5_9 y13_11 e13_11) (And.intro ff (And.intro rfl (And.intro rfl (And.intro rfl trivial))))) (And.intro rfl ?_))
            refine Exists.intro none ?_
            refine Exists.intro none ?_
            refine And.intro (fun g6 => ?_) (fun g6 => ?_)
            · skip
              replace h := cT g6 h
              refine Exists.intro none ?_
              obtain ⟨x15_5, e15_5, h⟩ := bS h
              obtain ⟨k15_8, h⟩ := ckS h
              refine Exists.intro [.int .i64 x15_5.V, .int .i64 x15_5.Min, .int .i64 x15_5.Max] (And.intro (idx_map enc_api_Entry e15_5) ?_)
              refine And.intro (by have hh := (of_decide_eq_true k15_8); (try simp only [encZ, fixRows_length, List.length_map, List.length_append, List.length_take, List.length_drop, List.length_set, List.length_replicate, List.length_cons, List.length_nil] at hh); (try simp only [encZ, fixRows_length, List.length_map, List.length_append, List.length_take, List.length_drop, List.length_set, List.length_replicate, List.length_cons, List.length_nil]); (try simp only [w64, wu64] at hh); (try simp only [w64, wu64]); omega) ?_
              refine Exists.intro none ?_
              refine Exists.intro none ?_
              exact Exists.intro [(2047, some 2824)] (Exists.intro [] (Exists.intro ((y13_11, y13_11, (w64 (v5_10 + (1:Int))), (v5_b8x3_1 ++ [x15_5])), m1) (And.intro (hl1 (y13_11, y13_11, (w64 (v5_10 + (1:Int))), (v5_b8x3_1 ++ [x15_5])) (Option.some.inj h).symm) (And.intro (Nat.lt_succ_self m1) (And.intro rfl (And.intro rfl (And.intro rfl (And.intro rfl (And.intro rfl (And.intro rfl (And.intro ff (And.intro rfl (And.intro rfl (And.intro rfl (And.intro (by first | rfl | (simp only [encZ, List.map_append, List.map_cons, List.map_nil, List.map_take, List.map_drop, List.map_set, List.map_replicate]; done) | (simp only [encZ, List.map_append, List.map_cons, List.map_nil, List.map_take, List.map_drop, List.map_set, List.map_replicate]; rfl) | (simp only [encZ, List.map_append, List.map_cons, List.map_nil, List.map_take, List.map_drop, List.map_set, List.map_replicate, eL, enc_api_Ranks, enc_api_Recent, enc_api_Answer]; done) | (simp only [encZ, List.map_append, List.map_cons, List.map_nil, List.map_take, List.map_drop, List.map_set, List.map_replicate, eL, enc_api_Ranks, enc_api_Recent, enc_api_Answer]; rfl)) trivial)))))))))))))))
            · skip
              replace h := cF g6 h
              refine Exists.intro none ?_
              exact Exists.intro [] (Exists.intro [] (Exists.intro ((v5_8, y13_11, (w64 (v5_10 + (1:Int))), v5_b8x3_1), m1) (And.intro (hl1 (v5_8, y13_11, (w64 (v5_10 + (1:Int))), v5_b8x3_1) (Option.some.inj h).symm) (And.intro (Nat.lt_succ_self m1) (And.intro rfl (And.intro rfl (And.intro rfl (And.intro rfl (And.intro rfl (And.intro rfl (And.intro ff (And.intro rfl (And.intro rfl (And.intro rfl (And.intro rfl trivial)))))))))))))))
          · skip
            replace h := cF g5 h
            replace h := popS h hr1
            refine Exists.intro none ?_
            replace h := Option.some.inj h
            first | subst h | rw [← h]
            exact (And.intro rfl (And.intro ff (And.intro rfl (And.intro rfl trivial))))
    · skip
      replace h := cT (oL g2) h
      refine Exists.intro none ?_
      replace h := Option.some.inj h
      first | subst h | rw [← h]
      exact (And.intro rfl (And.intro rfl (And.intro rfl trivial)))

theorem c_ref20_For (p0 : (List api_Entry)) (p1 : Int) (r : Int) (h : ref20_For p0 p1 = some r) : Contract Try.prog 54 [.lst 3 false (List.map enc_api_Entry p0), .int .i64 p1] [] (.int .i64 r) [] := by
  refine contract_of_vcs tab_ok orders_ok Try.func54 Try.call54 (by kernel_rfl) 0 rfl rfl _ rfl ?_
  delta ref20_For at h
  refine Exists.intro none ?_
  refine Exists.intro none ?_
  refine Exists.intro none ?_
  refine Exists.intro [.int .i64 (p0.length : Int)] (And.intro (lenS enc_api_Entry p0) ?_)
  replace h : ref20_For_l2 p0 p1 (0:Int) (0:Int) = some r := h
  delta ref20_For_l2 at h
  obtain ⟨n1, h⟩ := loopS h
  refine Exists.intro ⟨(Int × Int) × Nat, fun q => [(.tmp 0, .av (.lst 3 false (List.map enc_api_Entry p0))), (.tmp 1, .av (.int .i64 p1)), (.tmp 5, .av (.int .i64 q.1.1)), (.tmp 8, .av (.lst 3 false (List.map enc_api_Entry p0))), (.tmp 9, .av (.int .i64 (p0.length : Int))), (.tmp 10, .av (.int .i64 q.1.2))], fun q => loopN (fun (s : (Int × Int)) => ref20_For_l2s p0 p1 s.1 s.2) q.2 q.1 = some r, fun q => q.2⟩ (And.intro (Exists.intro [] (Exists.intro [] (Exists.intro (((0:Int), (0:Int)), n1) (And.intro h (And.intro rfl (And.intro ff (And.intro rfl (And.intro rfl (And.intro rfl (And.intro ff (And.intro rfl (And.intro rfl (And.intro rfl trivial))))))))))))) ?_)
  clear h
  refine fun q h => ?_
  obtain ⟨⟨v2_5, v2_10⟩, n1⟩ := q
  obtain ⟨m1, x1, hm1, h, hl1, hr1⟩ := loopN_step h
  replace hm1 : n1 = m1 + 1 := hm1
  subst hm1
  replace h : ref20_For_l2s p0 p1 v2_5 v2_10 = some x1 := h
  delta ref20_For_l2s at h
  refine Exists.intro none ?_
  refine And.intro (fun g1 => ?_) (fun g1 => ?_)
  · skip
    replace h := cT g1 h
    refine Exists.intro none ?_
    refine Exists.intro none ?_
    obtain ⟨x4_1, e4_1, h⟩ := bS h
    refine Exists.intro [.int .i64 x4_1.V, .int .i64 x4_1.Min, .int .i64 x4_1.Max] (And.intro (idx_map enc_api_Entry e4_1) ?_)
    refine Exists.intro none ?_
    obtain ⟨x5_12, e5_12, h⟩ := bS h
    obtain ⟨x5_18, e5_18, h⟩ := bS h
    refine Exists.intro [.int .i64 x5_12.V, .int .i64 x5_12.Min, .int .i64 x5_12.Max] (And.intro (idx_map enc_api_Entry e5_12) ?_)
    refine Exists.intro [.int .i64 x5_18.V, .int .i64 x5_18.Min, .int .i64 x5_18.Max] (And.intro (idx_map enc_api_Entry e5_18) ?_)
    refine Exists.intro none ?_
    refine And.intro (fun g2 => ?_) (fun g2 => ?_)
    · skip
      replace h := cT g2 h
      refine Exists.intro none ?_
      refine Exists.intro none ?_
      exact Exists.intro [] (Exists.intro [] (Exists.intro ((v2_10, (w64 (v2_10 + (1:Int)))), m1) (And.intro (hl1 (v2_10, (w64 (v2_10 + (1:Int)))) (Option.some.inj h).symm) (And.intro (Nat.lt_succ_self m1) (And.intro rfl (And.intro ff (And.intro rfl (And.intro rfl (And.intro rfl (And.intro ff (And.intro rfl (And.intro rfl (And.intro rfl trivial)))))))))))))
    · skip
      replace h := cF g2 h
      refine Exists.intro none ?_
      exact Exists.intro [] (Exists.intro [] (Exists.intro ((v2_5, (w64 (v2_10 + (1:Int)))), m1) (And.intro (hl1 (v2_5, (w64 (v2_10 + (1:Int)))) (Option.some.inj h).symm) (And.intro (Nat.lt_succ_self m1) (And.intro rfl (And.intro ff (And.intro rfl (And.intro rfl (And.intro rfl (And.intro ff (And.intro rfl (And.intro rfl (And.intro rfl trivial)))))))))))))
  · skip
    replace h := cF g1 h
    replace h := popS h hr1
    refine Exists.intro none ?_
    replace h := Option.some.inj h
    first | subst h | rw [← h]
    exact (And.intro rfl trivial)

theorem c_ref21_Prune (p0 : api_Ranks) (p1 : Int) (r : (api_Ranks × Int)) (h : ref21_Prune p0 p1 = some r) : Contract Try.prog 24 [.agg [.int .i64 p0.N, .lst 3 false (List.map enc_api_Entry p0.Entries)], .int .i64 p1] [] (.tup [.agg [.int .i64 r.1.N, .lst 3 false (List.map enc_api_Entry r.1.Entries)], .int .i64 r.2]) [] := by
  refine contract_of_vcs tab_ok orders_ok Try.func24 Try.call24 (by kernel_rfl) 0 rfl rfl _ rfl ?_
  delta ref21_Prune at h
  refine Exists.intro none ?_
  refine Exists.intro none ?_
  obtain ⟨y1_1, e1_1, h⟩ := bS h
  refine Exists.intro (CK.plain _ _) (And.intro (Contract.wk (c_ref21_Validate p0 y1_1 e1_1) (And.intro rfl (And.intro ff (And.intro rfl trivial)))) (And.intro rfl ?_))
  refine Exists.intro none ?_
  refine And.intro (fun g1 => ?_) (fun g1 => ?_)
  · skip
    replace h := cT g1 h
    refine Exists.intro none ?_
    replace h := Option.some.inj h
    first | subst h | rw [← h]
    exact (And.intro rfl (And.intro rfl (And.intro rfl trivial)))
  · skip
    replace h := cF g1 h
    refine Exists.intro none ?_
    refine Exists.intro none ?_
    refine And.intro (fun g2 => ?_) (fun g2 => ?_)
    · skip
      refine And.intro (fun g3 => ?_) (fun g3 => ?_)
      · skip
        replace h := cT (oR g2 g3) h
        refine Exists.intro none ?_
        replace h := Option.some.inj h
        first | subst h | rw [← h]
        exact (And.intro rfl (And.intro rfl (And.intro rfl trivial)))
      · skip
        replace h := cF (oR g2 g3) h
        refine Exists.intro none ?_
        refine Exists.intro [.int .i64 (p0.Entries.length : Int)] (And.intro (lenS enc_api_Entry p0.Entries) ?_)
        refine And.intro (fun g4 => ?_) (fun g4 => ?_)
        · skip
          replace h := cT g4 h
          refine Exists.intro none ?_
          replace h := Option.some.inj h
          first | subst h | rw [← h]
          exact (And.intro rfl (And.intro ff (And.intro rfl (And.intro rfl trivial))))
        · skip
          replace h := cF g4 h
          refine Exists.intro none ?_
          refine Exists.intro none ?_
          refine Exists.intro none ?_
          replace h : ref21_Prune_l5 p0 p1 (-1:Int) (0:Int) ([] : List api_Entry) = some r := h
          delta ref21_Prune_l5 at h
          obtain ⟨n1, h⟩ := loopS h
          refine Exists.intro ⟨(Int × Int × (List api_Entry)) × Nat, fun q => [(.tmp 1, .av (.int .i64 p1)), (.tmp 2, .av (.ptr 0 0)), (.tmp 4, .av (.ptr 1 0)), (.tmp 7, .av (.ptr 1283 0)), (.tmp 8, .av (.int .i64 q.1.1)), (.tmp 9, .av (.int .i64 q.1.2.1)), (.box 0, .box [.int .i64 p0.N, .lst 3 false (List.map enc_api_Entry p0.Entries)]), (.box 1, .box [.int .i64 (0:Int), .nilS]), (.box 1283, .box [.int .i64 p0.N, .own 2047]), (.tok 2047, .tok 39 3 (List.map enc_api_Entry q.1.2.2))], fun q => loopN (fun (s : (Int × Int × (List api_Entry))) => ref21_Prune_l5s p0 p1 s.1 s.2.1 s.2.2) q.2 q.1 = some r, fun q => q.2⟩ (And.intro (Exists.intro [(2047, none)] (Exists.intro [] (Exists.intro (((-1:Int), (0:Int), ([] : List api_Entry)), n1) (And.intro h (And.intro rfl (And.intro rfl (And.intro rfl (And.intro rfl (And.intro rfl (And.intro ff (And.intro rfl (And.intro rfl (And.intro rfl (And.intro rfl trivial)))))))))))))) ?_)
          clear h
          refine fun q h => ?_
          obtain ⟨⟨v5_8, v5_9, v5_b8x3_1⟩, n1⟩ := q
          obtain ⟨m1, x1, hm1, h, hl1, hr1⟩ := loopN_step h
          replace hm1 : n1 = m1 + 1 := hm1
          subst hm1
          replace h : ref21_Prune_l5s p0 p1 v5_8 v5_9 v5_b8x3_1 = some x1 := h
          delta ref21_Prune_l5s at h
          refine Exists.intro none ?_
          refine And.intro (fun g5 => ?_) (fun g5 => ?_)
          · skip
            replace h := cT g5 h
            refine Exists.intro none ?_
            refine Exists.intro none ?_
            obtain ⟨k13_8, h⟩ := ckS h
            obtain ⟨y13_10, e13_10, h⟩ := bS h
            refine And.intro (of_decide_eq_true k13_8) ?_
            refine Exists.intro (CK.plain _ _) (And.intro (Contract.wk (c_ref20_For p0.Entries (w64 ((1:Int) + (w64 (Int.tdiv (w64 (v5_9 * (w64 (p0.N - (1:Int))))) p1)))) y13_10 e13_10) (And.intro ff (And.intro rfl (And.intro rfl trivial)))) (And.intro rfl ?_))
            refine Exists.intro none ?_
            refine Exists.intro none ?_
            refine And.intro (fun g6 => ?_) (fun g6 => ?_)
            · skip
              replace h := cT g6 h
              refine Exists.intro none ?_
              obtain ⟨x15_5, e15_5, h⟩ := bS h
              obtain ⟨k15_8, h⟩ := ckS h
              refine Exists.intro [.int .i64 x15_5.V, .int .i64 x15_5.Min, .int .i64 x15_5.Max] (And.intro (idx_map enc_api_Entry e15_5) ?_)
              refine And.intro (by have hh := (of_decide_eq_true k15_8); (try simp only [encZ, fixRows_length, List.length_map, List.length_append, List.length_take, List.length_drop, List.length_set, List.length_replicate, List.length_cons, List.length_nil] at hh); (try simp only [encZ, fixRows_length, List.length_map, List.length_append, List.length_take, List.length_drop, List.length_set, List.length_replicate, List.length_cons, List.length_nil]); (try simp only [w64, wu64] at hh); (try simp only [w64, wu64]); omega) ?_
              refine Exists.intro none ?_
              exact Exists.intro [(2047, some 2824)] (Exists.intro [] (Exists.intro ((y13_10, (w64 (v5_9 + (1:Int))), (v5_b8x3_1 ++ [x15_5])), m1) (And.intro (hl1 (y13_10, (w64 (v5_9 + (1:Int))), (v5_b8x3_1 ++ [x15_5])) (Option.some.inj h).symm) (And.intro (Nat.lt_succ_self m1) (And.intro rfl (And.intro rfl (And.intro rfl (And.intro rfl (And.intro rfl (And.intro ff (And.intro rfl (And.intro rfl (And.intro rfl (And.intro (by first | rfl | (simp only [encZ, List.map_append, List.map_cons, List.map_nil, List.map_take, List.map_drop, List.map_set, List.map_replicate]; done) | (simp only [encZ, List.map_append, List.map_cons, List.map_nil, List.map_take, List.map_drop, List.map_set, List.map_replicate]; rfl) | (simp only [encZ, List.map_append, List.map_cons, List.map_nil, List.map_take, List.map_drop, List.map_set, List.map_replicate, eL, enc_api_Ranks, enc_api_Recent, enc_api_Answer]; done) | (simp only [encZ, List.map_append, List.map_cons, List.map_nil, List.map_take, List.map_drop, List.map_set, List.map_replicate, eL, enc_api_Ranks, enc_api_Recent, enc_api_Answer]; rfl)) trivial))))))))))))))
            · skip
              replace h := cF g6 h
              refine Exists.intro none ?_
              exact Exists.intro [] (Exists.intro [] (Exists.intro ((v5_8, (w64 (v5_9 + (1:Int))), v5_b8x3_1), m1) (And.intro (hl1 (v5_8, (w64 (v5_9 + (1:Int))), v5_b8x3_1) (Option.some.inj h).symm) (And.intro (Nat.lt_succ_self m1) (And.intro rfl (And.intro rfl (And.intro rfl (And.intro rfl (And.intro rfl (And.intro ff (And.intro rfl (And.intro rfl (And.intro rfl (And.intro rfl trivial))))))))))))))
          · skip
            replace h := cF g5 h
            replace h := popS h hr1
            refine Exists.intro none ?_
            replace h := Option.some.inj h
            first | subst h | rw [← h]
            exact (And.intro rfl (And.intro ff (And.intro rfl (And.intro rfl trivial))))
    · skip
      replace h := cT (oL g2) h
      refine Exists.intro none ?_
      replace h := Option.some.inj h
      first | subst h | rw [← h]
      exact (And.intro rfl (And.intro rfl (And.intro rfl trivial)))

theorem c_law21_RankPrunes (p0 : api_Ranks) (p1 : Int) (r : Bool) (h : law21_RankPrunes p0 p1 = some r) : Contract Try.prog 6 [.agg [.int .i64 p0.N, .lst 3 false (List.map enc_api_Entry p0.Entries)], .int .i64 p1] [] (.sb r) [] := by
  refine contract_of_vcs tab_ok orders_ok Try.func6 Try.call6 (by kernel_rfl) 0 rfl rfl _ rfl ?_
  delta law21_RankPrunes at h
  refine Exists.intro none ?_
  refine Exists.intro none ?_
  refine Exists.intro (some (⟨Unit, fun _ => [(.tmp 1, .av (.int .i64 p1)), (.tmp 2, .av (.ptr 0 0)), (.tmp 19, .av (.sb ((!(law21_few p0)) || ((decide (p1 > (2000:Int))) && (decide (p1 < (65536:Int))))))), (.box 0, .box [.int .i64 p0.N, .lst 3 false (List.map enc_api_Entry p0.Entries)])], fun _ => True, fun _ => 0⟩, 1000000)) (And.intro ?_ (fun _ _ => ?_))
  · skip
    refine Exists.intro (CK.plain _ _) (And.intro (Contract.wk (c_law21_few p0) (And.intro rfl (And.intro ff (And.intro rfl trivial)))) (And.intro rfl ?_))
    refine And.intro (fun g1 => ?_) (fun g1 => ?_)
    · skip
      refine And.intro (fun g2 => ?_) (fun g2 => ?_)
      · skip
        exact Exists.intro [] (Exists.intro [] (Exists.intro () (And.intro trivial (And.intro rfl (And.intro rfl (And.intro (Eq.symm (oR g1 (aR g2 rfl))) (And.intro rfl (And.intro ff (And.intro rfl trivial)))))))))
      · skip
        exact Exists.intro [] (Exists.intro [] (Exists.intro () (And.intro trivial (And.intro rfl (And.intro rfl (And.intro (Eq.symm (oR g1 (aL g2))) (And.intro rfl (And.intro ff (And.intro rfl trivial)))))))))
    · skip
      exact Exists.intro [] (Exists.intro [] (Exists.intro () (And.intro trivial (And.intro rfl (And.intro rfl (And.intro (Eq.symm (oL g1)) (And.intro rfl (And.intro ff (And.intro rfl trivial)))))))))
  · skip
    refine And.intro (fun g3 => ?_) (fun g3 => ?_)
    · skip
      replace h := cT g3 h
      refine Exists.intro none ?_
      obtain ⟨y2_0, e2_0, h⟩ := bS h
      refine Exists.intro (CK.plain _ _) (And.intro (Contract.wk (c_law21_awake y2_0 e2_0) trivial) (And.intro rfl ?_))
      replace h := Option.some.inj h
      first | subst h | rw [← h]
      exact (And.intro rfl trivial)
    · skip
      replace h := cF g3 h
      refine Exists.intro none ?_
      obtain ⟨y3_2, e3_2, h⟩ := bS h
      refine Exists.intro (CK.plain _ _) (And.intro (Contract.wk (c_rank_Prune p0 p1 y3_2 e3_2) (And.intro rfl (And.intro ff (And.intro rfl (And.intro rfl trivial))))) (And.intro rfl ?_))
      refine Exists.intro none ?_
      obtain ⟨y4_2, e4_2, h⟩ := bS h
      refine Exists.intro (CK.plain _ _) (And.intro (Contract.wk (c_ref21_Prune p0 p1 y4_2 e4_2) (And.intro rfl (And.intro ff (And.intro rfl (And.intro rfl trivial))))) (And.intro rfl ?_))
      refine Exists.intro none ?_
      obtain ⟨y5_2, e5_2, h⟩ := bS h
      refine Exists.intro none ?_
      refine Exists.intro (CK.plain _ _) (And.intro (Contract.wk (c_ref21_Same y3_2.1 y4_2.1 y5_2 e5_2) (And.intro rfl (And.intro ff (And.intro rfl (And.intro rfl (And.intro ff (And.intro rfl trivial))))))) (And.intro rfl ?_))
      refine And.intro (fun g4 => ?_) (fun g4 => ?_)
      · skip
        refine And.intro (fun g5 => ?_) (fun g5 => ?_)
        · skip
          replace h := cT (oR g4 g5) h
          refine Exists.intro none ?_
          replace h := Option.some.inj h
          first | subst h | rw [← h]
          exact (And.intro rfl trivial)
        · skip
          replace h := cF (oR g4 g5) h
          refine Exists.intro none ?_
          refine Exists.intro (some (⟨Unit, fun _ => [(.tmp 1, .av (.int .i64 p1)), (.tmp 2, .av (.ptr 0 0)), (.tmp 5, .av (.ptr 1000006 0)), (.tmp 51, .av (.sb ((y3_2.2 != (0:Int)) || (decide ((p0.Entries.length : Int) ≤ (w64 (p1 + (1:Int)))))))), (.box 0, .box [.int .i64 p0.N, .lst 3 false (List.map enc_api_Entry p0.Entries)]), (.box 1000006, .box [.int .i64 y3_2.1.N, .lst 3 false (List.map enc_api_Entry y3_2.1.Entries)])], fun _ => True, fun _ => 0⟩, 2000000)) (And.intro ?_ (fun _ _ => ?_))
          · skip
            refine And.intro (fun g6 => ?_) (fun g6 => ?_)
            · skip
              refine Exists.intro [.int .i64 (p0.Entries.length : Int)] (And.intro (lenS enc_api_Entry p0.Entries) ?_)
              exact Exists.intro [] (Exists.intro [] (Exists.intro () (And.intro trivial (And.intro rfl (And.intro rfl (And.intro (Eq.symm (oR g6 rfl)) (And.intro rfl (And.intro ff (And.intro rfl (And.intro rfl (And.intro ff (And.intro rfl trivial))))))))))))
            · skip
              exact Exists.intro [] (Exists.intro [] (Exists.intro () (And.intro trivial (And.intro rfl (And.intro rfl (And.intro (Eq.symm (oL g6)) (And.intro rfl (And.intro ff (And.intro rfl (And.intro rfl (And.intro ff (And.intro rfl trivial))))))))))))
          · skip
            refine And.intro (fun g7 => ?_) (fun g7 => ?_)
            · skip
              replace h := cT g7 h
              refine Exists.intro none ?_
              obtain ⟨y8_0, e8_0, h⟩ := bS h
              refine Exists.intro (CK.plain _ _) (And.intro (Contract.wk (c_law21_awake y8_0 e8_0) trivial) (And.intro rfl ?_))
              replace h := Option.some.inj h
              first | subst h | rw [← h]
              exact (And.intro rfl trivial)
            · skip
              replace h := cF g7 h
              refine Exists.intro none ?_
              obtain ⟨y9_1, e9_1, h⟩ := bS h
              obtain ⟨y9_13, e9_13, h⟩ := bS h
              obtain ⟨y9_15, e9_15, h⟩ := bS h
              obtain ⟨k9_23, h⟩ := ckS h
              obtain ⟨y9_28, e9_28, h⟩ := bS h
              refine Exists.intro none ?_
              refine Exists.intro (CK.plain _ _) (And.intro (Contract.wk (c_rank_Validate y3_2.1 y9_1 e9_1) (And.intro rfl (And.intro ff (And.intro rfl trivial)))) (And.intro rfl ?_))
              refine And.intro (fun g8 => ?_) (fun g8 => ?_)
              · skip
                refine Exists.intro [.int .i64 (y3_2.1.Entries.length : Int)] (And.intro (lenS enc_api_Entry y3_2.1.Entries) ?_)
                refine And.intro (fun g9 => ?_) (fun g9 => ?_)
                · skip
                  refine Exists.intro (CK.plain _ _) (And.intro (Contract.wk (c_rank_Gap y3_2.1 y9_13 (gdT (aR g8 g9) e9_13)) (And.intro rfl (And.intro ff (And.intro rfl trivial)))) (And.intro rfl ?_))
                  refine Exists.intro (CK.plain _ _) (And.intro (Contract.wk (c_rank_Gap p0 y9_15 (gdT (aR g8 g9) e9_15)) (And.intro rfl (And.intro ff (And.intro rfl trivial)))) (And.intro rfl ?_))
                  refine And.intro (of_decide_eq_true (gT (aR g8 g9) k9_23)) ?_
                  refine And.intro (fun g10 => ?_) (fun g10 => ?_)
                  · skip
                    refine Exists.intro (CK.plain _ _) (And.intro (Contract.wk (c_law21_awake y9_28 (gdT (aR (aR g8 g9) g10) e9_28)) trivial) (And.intro rfl ?_))
                    replace h := Option.some.inj h
                    first | subst h | rw [← h]
                    exact (And.intro (Eq.symm (aR (aR (aR g8 g9) g10) rfl)) trivial)
                  · skip
                    replace h := Option.some.inj h
                    first | subst h | rw [← h]
                    exact (And.intro (Eq.symm (aL (aR (aR g8 g9) g10))) trivial)
                · skip
                  replace h := Option.some.inj h
                  first | subst h | rw [← h]
                  exact (And.intro (Eq.symm (aL (aL (aR g8 g9)))) trivial)
              · skip
                replace h := Option.some.inj h
                first | subst h | rw [← h]
                exact (And.intro (Eq.symm (aL (aL (aL g8)))) trivial)
      · skip
        replace h := cT (oL g4) h
        refine Exists.intro none ?_
        replace h := Option.some.inj h
        first | subst h | rw [← h]
        exact (And.intro rfl trivial)

end Go.Proofs.Ytpclnmpmammlfaa
