/- The contracts: each function of the program does what its function on plain data says. Made by program. -/
import Derived.Test.YtpclnmpmammlfaaTab
import Derived.Test.YtpclnmpmammlfaaWin
import Derived.Test.YtpclnmpmammlfaaWalk
import Derived.Test.YtpclnmpmammlfaaSrt
set_option linter.unusedVariables false
set_option linter.unusedSimpArgs false
set_option linter.unnecessarySimpa false
set_option maxHeartbeats 4000000
namespace Go.Proofs.Ytpclnmpmammlfaa
open Go.Vc Go.Dec Go.Win

theorem c_math_bits_Len64 (p0 : Int) (r : Int) (h : math_bits_Len64 p0 = some r) : Contract Try.prog 118 [.int .u64 p0] [] (.int .i64 r) [] := by
  unfold math_bits_Len64 at h
  obtain ⟨k, h⟩ := ckS h
  obtain ⟨k1, k2⟩ := of_decide_eq_true k
  cases h
  exact calls_contract1 Try.call118 fun w => walk_Len64 p0 w k1 k2

theorem c_rank_Of (p0 : (List Int)) (r : (api_Ranks × Int)) (h : rank_Of p0 = some r) : Contract Try.prog 13 [.lst 1 false (List.map (eI .i64) p0)] [] (.tup [.agg [.int .i64 r.1.N, .lst 3 false (List.map enc_api_Entry r.1.Entries)], .int .i64 r.2]) [] := by
  refine contract_of_vcs tab_ok orders_ok Try.func13 Try.call13 (by kernel_rfl) 0 rfl rfl _ rfl ?_
  delta rank_Of at h
  refine Exists.intro none ?_
  refine Exists.intro none ?_
  refine Exists.intro [.int .i64 (p0.length : Int)] (And.intro (lenS (eI .i64) p0) ?_)
  refine And.intro (fun g1 => ?_) (fun g1 => ?_)
  · skip
    replace h := cT g1 h
    refine Exists.intro none ?_
    replace h := Option.some.inj h
    first | subst h | rw [← h]
    exact (And.intro rfl (And.intro rfl (And.intro rfl trivial)))
  · skip
    replace h := cF g1 h
    refine Exists.intro none ?_
    obtain ⟨k3_1, h⟩ := ckS h
    refine Exists.intro (CK.fresh _ _ _) (And.intro (clone_int false p0 (of_decide_eq_true k3_1)) (And.intro rfl ?_))
    refine Exists.intro none ?_
    obtain ⟨k4_1, h⟩ := ckS h
    refine Exists.intro (CK.sorts 513 2 p0) (And.intro sorts_int (And.intro (And.intro rfl (And.intro rfl (of_decide_eq_true k4_1))) ?_))
    refine Exists.intro none ?_
    refine Exists.intro [.int .i64 ((sortZ p0).length : Int)] (And.intro (lenS (eI .i64) (sortZ p0)) ?_)
    refine Exists.intro none ?_
    refine Exists.intro [.int .i64 ((sortZ p0).length : Int)] (And.intro (lenS (eI .i64) (sortZ p0)) ?_)
    replace h : rank_Of_l3 p0 (0:Int) ([] : List api_Entry) = some r := h
    delta rank_Of_l3 at h
    obtain ⟨n1, h⟩ := loopS h
    refine Exists.intro ⟨(Int × (List api_Entry)) × Nat, fun q => [(.tmp 2, .av (.ptr 0 0)), (.tmp 5, .av (.ptr 1027 0)), (.tmp 19, .av (.own 513)), (.tmp 20, .av (.int .i64 ((sortZ p0).length : Int))), (.tmp 21, .av (.int .i64 q.1.1)), (.box 0, .box [.int .i64 (0:Int), .nilS]), (.box 1027, .box [.int .i64 ((sortZ p0).length : Int), .own 1535]), (.tok 513, .tok 2 1 (List.map (eI .i64) (sortZ p0))), (.tok 1535, .tok 39 3 (List.map enc_api_Entry q.1.2))], fun q => loopN (fun (s : (Int × (List api_Entry))) => rank_Of_l3s p0 s.1 s.2) q.2 q.1 = some r, fun q => q.2⟩ (And.intro (Exists.intro [(1535, none)] (Exists.intro [] (Exists.intro (((0:Int), ([] : List api_Entry)), n1) (And.intro h (And.intro rfl (And.intro rfl (And.intro rfl (And.intro rfl (And.intro rfl (And.intro rfl (And.intro rfl trivial))))))))))) ?_)
    clear h
    refine fun q h => ?_
    obtain ⟨⟨v3_21, v3_b5x3_1⟩, n1⟩ := q
    obtain ⟨m1, x1, hm1, h, hl1, hr1⟩ := loopN_step h
    replace hm1 : n1 = m1 + 1 := hm1
    subst hm1
    replace h : rank_Of_l3s p0 v3_21 v3_b5x3_1 = some x1 := h
    delta rank_Of_l3s at h
    refine Exists.intro none ?_
    refine And.intro (fun g2 => ?_) (fun g2 => ?_)
    · skip
      replace h := cT g2 h
      refine Exists.intro none ?_
      obtain ⟨x8_1, e8_1, h⟩ := bS h
      obtain ⟨x8_2, e8_2, h⟩ := bS h
      refine And.intro (idx_lt (eI .i64) e8_1) ?_
      refine Exists.intro [.int .i64 x8_2] (And.intro (idx_elt (eI .i64) e8_2) ?_)
      refine Exists.intro none ?_
      obtain ⟨k9_9, h⟩ := ckS h
      refine And.intro (by have hh := (of_decide_eq_true k9_9); (try simp only [encZ, fixRows_length, List.length_map, List.length_append, List.length_take, List.length_drop, List.length_set, List.length_replicate, List.length_cons, List.length_nil] at hh); (try simp only [encZ, fixRows_length, List.length_map, List.length_append, List.length_take, List.length_drop, List.length_set, List.length_replicate, List.length_cons, List.length_nil]); (try simp only [w64, wu64] at hh); (try simp only [w64, wu64]); omega) ?_
      refine Exists.intro none ?_
      exact Exists.intro [(1535, some 2057)] (Exists.intro [] (Exists.intro (((w64 (v3_21 + (1:Int))), (v3_b5x3_1 ++ [(api_Entry.mk x8_2 (w64 (v3_21 + (1:Int))) (w64 (v3_21 + (1:Int))))])), m1) (And.intro (hl1 ((w64 (v3_21 + (1:Int))), (v3_b5x3_1 ++ [(api_Entry.mk x8_2 (w64 (v3_21 + (1:Int))) (w64 (v3_21 + (1:Int))))])) (Option.some.inj h).symm) (And.intro (Nat.lt_succ_self m1) (And.intro rfl (And.intro rfl (And.intro rfl (And.intro rfl (And.intro rfl (And.intro rfl (And.intro (by first | rfl | (simp only [encZ, List.map_append, List.map_cons, List.map_nil, List.map_take, List.map_drop, List.map_set, List.map_replicate]; done) | (simp only [encZ, List.map_append, List.map_cons, List.map_nil, List.map_take, List.map_drop, List.map_set, List.map_replicate]; rfl) | (simp only [encZ, List.map_append, List.map_cons, List.map_nil, List.map_take, List.map_drop, List.map_set, List.map_replicate, eL, enc_api_Ranks, enc_api_Recent, enc_api_Answer]; done) | (simp only [encZ, List.map_append, List.map_cons, List.map_nil, List.map_take, List.map_drop, List.map_set, List.map_replicate, eL, enc_api_Ranks, enc_api_Recent, enc_api_Answer]; rfl)) trivial)))))))))))
    · skip
      replace h := cF g2 h
      replace h := popS h hr1
      refine Exists.intro none ?_
      replace h := Option.some.inj h
      first | subst h | rw [← h]
      exact (And.intro rfl (And.intro ff (And.intro rfl (And.intro rfl trivial))))

theorem c_law21_awake (r : Bool) (h : law21_awake = some r) : Contract Try.prog 12 [] [] (.sb r) [] := by
  refine contract_of_vcs tab_ok orders_ok Try.func12 Try.call12 (by kernel_rfl) 0 rfl rfl _ rfl ?_
  delta law21_awake at h
  refine Exists.intro none ?_
  refine Exists.intro none ?_
  obtain ⟨y1_1, e1_1, h⟩ := bS h
  refine Exists.intro (CK.plain _ _) (And.intro (Contract.wk (c_rank_Of [(3:Int), (1:Int)] y1_1 e1_1) (And.intro ff (And.intro (by first | rfl | (simp only [encZ, List.map_append, List.map_cons, List.map_nil, List.map_take, List.map_drop, List.map_set, List.map_replicate]; done) | (simp only [encZ, List.map_append, List.map_cons, List.map_nil, List.map_take, List.map_drop, List.map_set, List.map_replicate]; rfl) | (simp only [encZ, List.map_append, List.map_cons, List.map_nil, List.map_take, List.map_drop, List.map_set, List.map_replicate, eL, enc_api_Ranks, enc_api_Recent, enc_api_Answer]; done) | (simp only [encZ, List.map_append, List.map_cons, List.map_nil, List.map_take, List.map_drop, List.map_set, List.map_replicate, eL, enc_api_Ranks, enc_api_Recent, enc_api_Answer]; rfl)) trivial))) (And.intro rfl ?_))
  refine Exists.intro none ?_
  obtain ⟨x2_16, e2_16, h⟩ := bS h
  refine Exists.intro none ?_
  refine And.intro (fun g1 => ?_) (fun g1 => ?_)
  · skip
    refine And.intro (fun g2 => ?_) (fun g2 => ?_)
    · skip
      refine Exists.intro [.int .i64 (y1_1.1.Entries.length : Int)] (And.intro (lenS enc_api_Entry y1_1.1.Entries) ?_)
      refine And.intro (fun g3 => ?_) (fun g3 => ?_)
      · skip
        refine Exists.intro [.int .i64 x2_16.V, .int .i64 x2_16.Min, .int .i64 x2_16.Max] (And.intro (idx_map enc_api_Entry (gdT (aR (aR g1 g2) g3) e2_16)) ?_)
        replace h := Option.some.inj h
        first | subst h | rw [← h]
        exact (And.intro (Eq.symm (aR (aR (aR g1 g2) g3) rfl)) trivial)
      · skip
        replace h := Option.some.inj h
        first | subst h | rw [← h]
        exact (And.intro (Eq.symm (aL (aR (aR g1 g2) g3))) trivial)
    · skip
      replace h := Option.some.inj h
      first | subst h | rw [← h]
      exact (And.intro (Eq.symm (aL (aL (aR g1 g2)))) trivial)
  · skip
    replace h := Option.some.inj h
    first | subst h | rw [← h]
    exact (And.intro (Eq.symm (aL (aL (aL g1)))) trivial)

theorem c_rank_Validate (p0 : api_Ranks) (r : Int) (h : rank_Validate p0 = some r) : Contract Try.prog 16 [.agg [.int .i64 p0.N, .lst 3 false (List.map enc_api_Entry p0.Entries)]] [] (.int .i64 r) [] := by
  refine contract_of_vcs tab_ok orders_ok Try.func16 Try.call16 (by kernel_rfl) 0 rfl rfl _ rfl ?_
  delta rank_Validate at h
  refine Exists.intro none ?_
  refine Exists.intro none ?_
  refine Exists.intro [.int .i64 (p0.Entries.length : Int)] (And.intro (lenS enc_api_Entry p0.Entries) ?_)
  refine Exists.intro none ?_
  refine Exists.intro none ?_
  refine And.intro (fun g1 => ?_) (fun g1 => ?_)
  · skip
    refine And.intro (fun g2 => ?_) (fun g2 => ?_)
    · skip
      refine And.intro (fun g3 => ?_) (fun g3 => ?_)
      · skip
        replace h := cT (oR (oR g1 g2) g3) h
        refine Exists.intro none ?_
        replace h := Option.some.inj h
        first | subst h | rw [← h]
        exact (And.intro rfl trivial)
      · skip
        replace h := cF (oR (oR g1 g2) g3) h
        refine Exists.intro none ?_
        refine Exists.intro [.int .i64 (p0.Entries.length : Int)] (And.intro (lenS enc_api_Entry p0.Entries) ?_)
        replace h : rank_Validate_l3 p0 (0:Int) = some r := h
        delta rank_Validate_l3 at h
        obtain ⟨n1, h⟩ := loopS h
        refine Exists.intro ⟨Int × Nat, fun q => [(.tmp 1, .av (.ptr 0 0)), (.tmp 3, .av (.int .i64 (p0.Entries.length : Int))), (.tmp 27, .av (.lst 3 false (List.map enc_api_Entry p0.Entries))), (.tmp 28, .av (.int .i64 (p0.Entries.length : Int))), (.tmp 29, .av (.int .i64 q.1)), (.box 0, .box [.int .i64 p0.N, .lst 3 false (List.map enc_api_Entry p0.Entries)])], fun q => loopN (fun (s : Int) => rank_Validate_l3s p0 s) q.2 q.1 = some r, fun q => q.2⟩ (And.intro (Exists.intro [] (Exists.intro [] (Exists.intro ((0:Int), n1) (And.intro h (And.intro rfl (And.intro rfl (And.intro ff (And.intro rfl (And.intro rfl (And.intro rfl (And.intro rfl (And.intro ff (And.intro rfl trivial))))))))))))) ?_)
        clear h
        refine fun q h => ?_
        obtain ⟨v3_29, n1⟩ := q
        obtain ⟨m1, x1, hm1, h, hl1, hr1⟩ := loopN_step h
        replace hm1 : n1 = m1 + 1 := hm1
        subst hm1
        replace h : rank_Validate_l3s p0 v3_29 = some x1 := h
        delta rank_Validate_l3s at h
        refine Exists.intro none ?_
        refine And.intro (fun g4 => ?_) (fun g4 => ?_)
        · skip
          replace h := cT g4 h
          refine Exists.intro none ?_
          refine Exists.intro none ?_
          obtain ⟨x6_1, e6_1, h⟩ := bS h
          refine Exists.intro [.int .i64 x6_1.V, .int .i64 x6_1.Min, .int .i64 x6_1.Max] (And.intro (idx_map enc_api_Entry e6_1) ?_)
          refine Exists.intro none ?_
          refine Exists.intro none ?_
          refine And.intro (fun g5 => ?_) (fun g5 => ?_)
          · skip
            refine And.intro (fun g6 => ?_) (fun g6 => ?_)
            · skip
              refine And.intro (fun g7 => ?_) (fun g7 => ?_)
              · skip
                replace h := cT (oR (oR g5 g6) g7) h
                refine Exists.intro none ?_
                replace h := retS h hr1
                first | subst h | rw [← h]
                exact (And.intro rfl trivial)
              · skip
                replace h := cF (oR (oR g5 g6) g7) h
                refine Exists.intro none ?_
                refine Exists.intro none ?_
                refine And.intro (fun g8 => ?_) (fun g8 => ?_)
                · skip
                  replace h := cT g8 h
                  refine Exists.intro none ?_
                  obtain ⟨x10_4, e10_4, h⟩ := bS h
                  refine Exists.intro [.int .i64 x10_4.V, .int .i64 x10_4.Min, .int .i64 x10_4.Max] (And.intro (idx_map enc_api_Entry e10_4) ?_)
                  refine Exists.intro none ?_
                  refine Exists.intro none ?_
                  refine And.intro (fun g9 => ?_) (fun g9 => ?_)
                  · skip
                    refine And.intro (fun g10 => ?_) (fun g10 => ?_)
                    · skip
                      refine And.intro (fun g11 => ?_) (fun g11 => ?_)
                      · skip
                        replace h := cT (oR (oR g9 g10) g11) h
                        refine Exists.intro none ?_
                        replace h := retS h hr1
                        first | subst h | rw [← h]
                        exact (And.intro rfl trivial)
                      · skip
                        replace h := cF (oR (oR g9 g10) g11) h
                        refine Exists.intro none ?_
                        exact Exists.intro [] (Exists.intro [] (Exists.intro ((w64 (v3_29 + (1:Int))), m1) (And.intro (hl1 (w64 (v3_29 + (1:Int))) (Option.some.inj h).symm) (And.intro (Nat.lt_succ_self m1) (And.intro rfl (And.intro rfl (And.intro ff (And.intro rfl (And.intro rfl (And.intro rfl (And.intro rfl (And.intro ff (And.intro rfl trivial)))))))))))))
                    · skip
                      replace h := cT (oL (oR g9 g10)) h
                      refine Exists.intro none ?_
                      replace h := retS h hr1
                      first | subst h | rw [← h]
                      exact (And.intro rfl trivial)
                  · skip
                    replace h := cT (oL (oL g9)) h
                    refine Exists.intro none ?_
                    replace h := retS h hr1
                    first | subst h | rw [← h]
                    exact (And.intro rfl trivial)
                · skip
                  replace h := cF g8 h
                  refine Exists.intro none ?_
                  exact Exists.intro [] (Exists.intro [] (Exists.intro ((w64 (v3_29 + (1:Int))), m1) (And.intro (hl1 (w64 (v3_29 + (1:Int))) (Option.some.inj h).symm) (And.intro (Nat.lt_succ_self m1) (And.intro rfl (And.intro rfl (And.intro ff (And.intro rfl (And.intro rfl (And.intro rfl (And.intro rfl (And.intro ff (And.intro rfl trivial)))))))))))))
            · skip
              replace h := cT (oL (oR g5 g6)) h
              refine Exists.intro none ?_
              replace h := retS h hr1
              first | subst h | rw [← h]
              exact (And.intro rfl trivial)
          · skip
            replace h := cT (oL (oL g5)) h
            refine Exists.intro none ?_
            replace h := retS h hr1
            first | subst h | rw [← h]
            exact (And.intro rfl trivial)
        · skip
          replace h := cF g4 h
          replace h := popS h hr1
          refine Exists.intro none ?_
          obtain ⟨x14_5, e14_5, h⟩ := bS h
          obtain ⟨x14_14, e14_14, h⟩ := bS h
          refine Exists.intro (some (⟨Unit, fun _ => [(.tmp 100, .av (.sb ((decide ((p0.Entries.length : Int) > (0:Int))) && ((x14_5.Max != (1:Int)) || (x14_14.Min != p0.N)))))], fun _ => True, fun _ => 0⟩, 1000000)) (And.intro ?_ (fun _ _ => ?_))
          · skip
            refine And.intro (fun g12 => ?_) (fun g12 => ?_)
            · skip
              refine Exists.intro [.int .i64 x14_5.V, .int .i64 x14_5.Min, .int .i64 x14_5.Max] (And.intro (idx_map enc_api_Entry (gdT g12 e14_5)) ?_)
              refine And.intro (fun g13 => ?_) (fun g13 => ?_)
              · skip
                refine Exists.intro [.int .i64 x14_14.V, .int .i64 x14_14.Min, .int .i64 x14_14.Max] (And.intro (idx_map enc_api_Entry (gdT (aR g12 (nE g13)) e14_14)) ?_)
                exact Exists.intro [] (Exists.intro [] (Exists.intro () (And.intro trivial (And.intro rfl (And.intro (Eq.symm (aR g12 (oR g13 rfl))) trivial)))))
              · skip
                exact Exists.intro [] (Exists.intro [] (Exists.intro () (And.intro trivial (And.intro rfl (And.intro (Eq.symm (aR g12 (oL g13))) trivial)))))
            · skip
              exact Exists.intro [] (Exists.intro [] (Exists.intro () (And.intro trivial (And.intro rfl (And.intro (Eq.symm (aL g12)) trivial)))))
          · skip
            refine And.intro (fun g14 => ?_) (fun g14 => ?_)
            · skip
              replace h := cT g14 h
              refine Exists.intro none ?_
              replace h := Option.some.inj h
              first | subst h | rw [← h]
              exact (And.intro rfl trivial)
            · skip
              replace h := cF g14 h
              refine Exists.intro none ?_
              replace h := Option.some.inj h
              first | subst h | rw [← h]
              exact (And.intro rfl trivial)
    · skip
      replace h := cT (oL (oR g1 g2)) h
      refine Exists.intro none ?_
      replace h := Option.some.inj h
      first | subst h | rw [← h]
      exact (And.intro rfl trivial)
  · skip
    replace h := cT (oL (oL g1)) h
    refine Exists.intro none ?_
    replace h := Option.some.inj h
    first | subst h | rw [← h]
    exact (And.intro rfl trivial)

theorem c_law21_few' (p0 : api_Ranks) (r : Bool) (h : law21_few p0 = r) : Contract Try.prog 18 [.agg [.int .i64 p0.N, .lst 3 false (List.map enc_api_Entry p0.Entries)]] [] (.sb r) [] := by
  refine contract_of_vcs tab_ok orders_ok Try.func18 Try.call18 (by kernel_rfl) 0 rfl rfl _ rfl ?_
  delta law21_few at h
  refine Exists.intro none ?_
  refine Exists.intro none ?_
  refine Exists.intro [.int .i64 (p0.Entries.length : Int)] (And.intro (lenS enc_api_Entry p0.Entries) ?_)
  first | subst h | rw [← h]
  exact (And.intro rfl trivial)
theorem c_law21_few (p0 : api_Ranks) : Contract Try.prog 18 [.agg [.int .i64 p0.N, .lst 3 false (List.map enc_api_Entry p0.Entries)]] [] (.sb (law21_few p0)) [] := c_law21_few' p0 (law21_few p0) rfl

theorem c_ref21_Validate (p0 : api_Ranks) (r : Int) (h : ref21_Validate p0 = some r) : Contract Try.prog 19 [.agg [.int .i64 p0.N, .lst 3 false (List.map enc_api_Entry p0.Entries)]] [] (.int .i64 r) [] := by
  refine contract_of_vcs tab_ok orders_ok Try.func19 Try.call19 (by kernel_rfl) 0 rfl rfl _ rfl ?_
  delta ref21_Validate at h
  refine Exists.intro none ?_
  refine Exists.intro none ?_
  refine Exists.intro none ?_
  refine And.intro (fun g1 => ?_) (fun g1 => ?_)
  · skip
    refine And.intro (fun g2 => ?_) (fun g2 => ?_)
    · skip
      refine Exists.intro [.int .i64 (p0.Entries.length : Int)] (And.intro (lenS enc_api_Entry p0.Entries) ?_)
      refine And.intro (fun g3 => ?_) (fun g3 => ?_)
      · skip
        replace h := cT (oR (oR g1 g2) g3) h
        refine Exists.intro none ?_
        replace h := Option.some.inj h
        first | subst h | rw [← h]
        exact (And.intro rfl trivial)
      · skip
        replace h := cF (oR (oR g1 g2) g3) h
        refine Exists.intro none ?_
        refine Exists.intro [.int .i64 (p0.Entries.length : Int)] (And.intro (lenS enc_api_Entry p0.Entries) ?_)
        replace h : ref21_Validate_l3 p0 (0:Int) = some r := h
        delta ref21_Validate_l3 at h
        obtain ⟨n1, h⟩ := loopS h
        refine Exists.intro ⟨Int × Nat, fun q => [(.tmp 1, .av (.ptr 0 0)), (.tmp 25, .av (.lst 3 false (List.map enc_api_Entry p0.Entries))), (.tmp 26, .av (.int .i64 (p0.Entries.length : Int))), (.tmp 27, .av (.int .i64 q.1)), (.box 0, .box [.int .i64 p0.N, .lst 3 false (List.map enc_api_Entry p0.Entries)])], fun q => loopN (fun (s : Int) => ref21_Validate_l3s p0 s) q.2 q.1 = some r, fun q => q.2⟩ (And.intro (Exists.intro [] (Exists.intro [] (Exists.intro ((0:Int), n1) (And.intro h (And.intro rfl (And.intro ff (And.intro rfl (And.intro rfl (And.intro rfl (And.intro rfl (And.intro ff (And.intro rfl trivial)))))))))))) ?_)
        clear h
        refine fun q h => ?_
        obtain ⟨v3_27, n1⟩ := q
        obtain ⟨m1, x1, hm1, h, hl1, hr1⟩ := loopN_step h
        replace hm1 : n1 = m1 + 1 := hm1
        subst hm1
        replace h : ref21_Validate_l3s p0 v3_27 = some x1 := h
        delta ref21_Validate_l3s at h
        refine Exists.intro none ?_
        refine And.intro (fun g4 => ?_) (fun g4 => ?_)
        · skip
          replace h := cT g4 h
          refine Exists.intro none ?_
          refine Exists.intro none ?_
          obtain ⟨x5_1, e5_1, h⟩ := bS h
          refine Exists.intro [.int .i64 x5_1.V, .int .i64 x5_1.Min, .int .i64 x5_1.Max] (And.intro (idx_map enc_api_Entry e5_1) ?_)
          refine Exists.intro none ?_
          refine Exists.intro (some (⟨Unit, fun _ => [(.tmp 1, .av (.ptr 0 0)), (.tmp 3, .av (.int .i64 v3_27)), (.tmp 4, .av (.ptr 1027 0)), (.tmp 25, .av (.lst 3 false (List.map enc_api_Entry p0.Entries))), (.tmp 26, .av (.int .i64 (p0.Entries.length : Int))), (.tmp 27, .av (.int .i64 v3_27)), (.tmp 72, .av (.sb (((((decide (x5_1.Min < (1:Int))) || (decide (x5_1.Min > x5_1.Max))) || (decide (x5_1.Max > p0.N))) || ((v3_27 == (0:Int)) && (x5_1.Max != (1:Int)))) || ((v3_27 == (w64 ((p0.Entries.length : Int) - (1:Int)))) && (x5_1.Min != p0.N))))), (.box 0, .box [.int .i64 p0.N, .lst 3 false (List.map enc_api_Entry p0.Entries)]), (.box 1027, .box [.int .i64 x5_1.V, .int .i64 x5_1.Min, .int .i64 x5_1.Max])], fun _ => True, fun _ => 0⟩, 1000000)) (And.intro ?_ (fun _ _ => ?_))
          · skip
            refine And.intro (fun g5 => ?_) (fun g5 => ?_)
            · skip
              refine And.intro (fun g6 => ?_) (fun g6 => ?_)
              · skip
                refine And.intro (fun g7 => ?_) (fun g7 => ?_)
                · skip
                  refine And.intro (fun g8 => ?_) (fun g8 => ?_)
                  · skip
                    refine And.intro (fun g9 => ?_) (fun g9 => ?_)
                    · skip
                      refine Exists.intro [.int .i64 (p0.Entries.length : Int)] (And.intro (lenS enc_api_Entry p0.Entries) ?_)
                      refine And.intro (fun g10 => ?_) (fun g10 => ?_)
                      · skip
                        exact Exists.intro [] (Exists.intro [] (Exists.intro () (And.intro trivial (And.intro rfl (And.intro rfl (And.intro ff (And.intro rfl (And.intro rfl (And.intro rfl (And.intro (Eq.symm (oR (oR (oR (oR g5 g6) g7) (aR g8 g9)) (aR g10 rfl))) (And.intro rfl (And.intro ff (And.intro rfl (And.intro rfl (And.intro rfl (And.intro rfl trivial))))))))))))))))
                      · skip
                        exact Exists.intro [] (Exists.intro [] (Exists.intro () (And.intro trivial (And.intro rfl (And.intro rfl (And.intro ff (And.intro rfl (And.intro rfl (And.intro rfl (And.intro (Eq.symm (oR (oR (oR (oR g5 g6) g7) (aR g8 g9)) (aL g10))) (And.intro rfl (And.intro ff (And.intro rfl (And.intro rfl (And.intro rfl (And.intro rfl trivial))))))))))))))))
                    · skip
                      exact Exists.intro [] (Exists.intro [] (Exists.intro () (And.intro trivial (And.intro rfl (And.intro rfl (And.intro ff (And.intro rfl (And.intro rfl (And.intro rfl (And.intro (Eq.symm (oL (oR (oR (oR g5 g6) g7) (aR g8 g9)))) (And.intro rfl (And.intro ff (And.intro rfl (And.intro rfl (And.intro rfl (And.intro rfl trivial))))))))))))))))
                  · skip
                    refine Exists.intro [.int .i64 (p0.Entries.length : Int)] (And.intro (lenS enc_api_Entry p0.Entries) ?_)
                    refine And.intro (fun g11 => ?_) (fun g11 => ?_)
                    · skip
                      exact Exists.intro [] (Exists.intro [] (Exists.intro () (And.intro trivial (And.intro rfl (And.intro rfl (And.intro ff (And.intro rfl (And.intro rfl (And.intro rfl (And.intro (Eq.symm (oR (oR (oR (oR g5 g6) g7) (aL g8)) (aR g11 rfl))) (And.intro rfl (And.intro ff (And.intro rfl (And.intro rfl (And.intro rfl (And.intro rfl trivial))))))))))))))))
                    · skip
                      exact Exists.intro [] (Exists.intro [] (Exists.intro () (And.intro trivial (And.intro rfl (And.intro rfl (And.intro ff (And.intro rfl (And.intro rfl (And.intro rfl (And.intro (Eq.symm (oR (oR (oR (oR g5 g6) g7) (aL g8)) (aL g11))) (And.intro rfl (And.intro ff (And.intro rfl (And.intro rfl (And.intro rfl (And.intro rfl trivial))))))))))))))))
                · skip
                  exact Exists.intro [] (Exists.intro [] (Exists.intro () (And.intro trivial (And.intro rfl (And.intro rfl (And.intro ff (And.intro rfl (And.intro rfl (And.intro rfl (And.intro (Eq.symm (oL (oL (oR (oR g5 g6) g7)))) (And.intro rfl (And.intro ff (And.intro rfl (And.intro rfl (And.intro rfl (And.intro rfl trivial))))))))))))))))
              · skip
                exact Exists.intro [] (Exists.intro [] (Exists.intro () (And.intro trivial (And.intro rfl (And.intro rfl (And.intro ff (And.intro rfl (And.intro rfl (And.intro rfl (And.intro (Eq.symm (oL (oL (oL (oR g5 g6))))) (And.intro rfl (And.intro ff (And.intro rfl (And.intro rfl (And.intro rfl (And.intro rfl trivial))))))))))))))))
            · skip
              exact Exists.intro [] (Exists.intro [] (Exists.intro () (And.intro trivial (And.intro rfl (And.intro rfl (And.intro ff (And.intro rfl (And.intro rfl (And.intro rfl (And.intro (Eq.symm (oL (oL (oL (oL g5))))) (And.intro rfl (And.intro ff (And.intro rfl (And.intro rfl (And.intro rfl (And.intro rfl trivial))))))))))))))))
          · skip
            refine And.intro (fun g12 => ?_) (fun g12 => ?_)
            · skip
              replace h := cT g12 h
              refine Exists.intro none ?_
              replace h := retS h hr1
              first | subst h | rw [← h]
              exact (And.intro rfl trivial)
            · skip
              replace h := cF g12 h
              refine Exists.intro none ?_
              refine Exists.intro none ?_
              refine And.intro (fun g13 => ?_) (fun g13 => ?_)
              · skip
                replace h := cT g13 h
                refine Exists.intro none ?_
                obtain ⟨x9_4, e9_4, h⟩ := bS h
                refine Exists.intro [.int .i64 x9_4.V, .int .i64 x9_4.Min, .int .i64 x9_4.Max] (And.intro (idx_map enc_api_Entry e9_4) ?_)
                refine Exists.intro none ?_
                refine Exists.intro none ?_
                refine And.intro (fun g14 => ?_) (fun g14 => ?_)
                · skip
                  refine And.intro (fun g15 => ?_) (fun g15 => ?_)
                  · skip
                    refine And.intro (fun g16 => ?_) (fun g16 => ?_)
                    · skip
                      replace h := cT (oR (oR g14 g15) g16) h
                      refine Exists.intro none ?_
                      replace h := retS h hr1
                      first | subst h | rw [← h]
                      exact (And.intro rfl trivial)
                    · skip
                      replace h := cF (oR (oR g14 g15) g16) h
                      refine Exists.intro none ?_
                      exact Exists.intro [] (Exists.intro [] (Exists.intro ((w64 (v3_27 + (1:Int))), m1) (And.intro (hl1 (w64 (v3_27 + (1:Int))) (Option.some.inj h).symm) (And.intro (Nat.lt_succ_self m1) (And.intro rfl (And.intro ff (And.intro rfl (And.intro rfl (And.intro rfl (And.intro rfl (And.intro ff (And.intro rfl trivial))))))))))))
                  · skip
                    replace h := cT (oL (oR g14 g15)) h
                    refine Exists.intro none ?_
                    replace h := retS h hr1
                    first | subst h | rw [← h]
                    exact (And.intro rfl trivial)
                · skip
                  replace h := cT (oL (oL g14)) h
                  refine Exists.intro none ?_
                  replace h := retS h hr1
                  first | subst h | rw [← h]
                  exact (And.intro rfl trivial)
              · skip
                replace h := cF g13 h
                refine Exists.intro none ?_
                exact Exists.intro [] (Exists.intro [] (Exists.intro ((w64 (v3_27 + (1:Int))), m1) (And.intro (hl1 (w64 (v3_27 + (1:Int))) (Option.some.inj h).symm) (And.intro (Nat.lt_succ_self m1) (And.intro rfl (And.intro ff (And.intro rfl (And.intro rfl (And.intro rfl (And.intro rfl (And.intro ff (And.intro rfl trivial))))))))))))
        · skip
          replace h := cF g4 h
          replace h := popS h hr1
          refine Exists.intro none ?_
          replace h := Option.some.inj h
          first | subst h | rw [← h]
          exact (And.intro rfl trivial)
    · skip
      replace h := cT (oL (oR g1 g2)) h
      refine Exists.intro none ?_
      replace h := Option.some.inj h
      first | subst h | rw [← h]
      exact (And.intro rfl trivial)
  · skip
    replace h := cT (oL (oL g1)) h
    refine Exists.intro none ?_
    replace h := Option.some.inj h
    first | subst h | rw [← h]
    exact (And.intro rfl trivial)

theorem c_rank_far' (p0 : api_Entry) (p1 : Int) (r : Int) (h : rank_far p0 p1 = r) : Contract Try.prog 85 [.agg [.int .i64 p0.V, .int .i64 p0.Min, .int .i64 p0.Max], .int .i64 p1] [] (.int .i64 r) [] := by
  refine contract_of_vcs tab_ok orders_ok Try.func85 Try.call85 (by kernel_rfl) 0 rfl rfl _ rfl ?_
  delta rank_far at h
  refine Exists.intro none ?_
  refine Exists.intro none ?_
  first | subst h | rw [← h]
  exact (And.intro rfl trivial)
theorem c_rank_far (p0 : api_Entry) (p1 : Int) : Contract Try.prog 85 [.agg [.int .i64 p0.V, .int .i64 p0.Min, .int .i64 p0.Max], .int .i64 p1] [] (.int .i64 (rank_far p0 p1)) [] := c_rank_far' p0 p1 (rank_far p0 p1) rfl

theorem c_rank_place (p0 : (List api_Entry)) (p1 : Int) (p2 : Int) (r : Int) (h : rank_place p0 p1 p2 = some r) : Contract Try.prog 52 [.lst 3 false (List.map enc_api_Entry p0), .int .i64 p1, .int .i64 p2] [] (.int .i64 r) [] := by
  refine contract_of_vcs tab_ok orders_ok Try.func52 Try.call52 (by kernel_rfl) 0 rfl rfl _ rfl ?_
  delta rank_place at h
  refine Exists.intro none ?_
  replace h : rank_place_l2 p0 p1 p2 = some r := h
  delta rank_place_l2 at h
  obtain ⟨n1, h⟩ := loopS h
  refine Exists.intro ⟨Int × Nat, fun q => [(.tmp 0, .av (.lst 3 false (List.map enc_api_Entry p0))), (.tmp 1, .av (.int .i64 p1)), (.tmp 2, .av (.int .i64 q.1))], fun q => loopN (fun (s : Int) => rank_place_l2s p0 p1 s) q.2 q.1 = some r, fun q => q.2⟩ (And.intro (Exists.intro [] (Exists.intro [] (Exists.intro (p2, n1) (And.intro h (And.intro rfl (And.intro ff (And.intro rfl (And.intro rfl (And.intro rfl trivial))))))))) ?_)
  clear h
  refine fun q h => ?_
  obtain ⟨v2_2, n1⟩ := q
  obtain ⟨m1, x1, hm1, h, hl1, hr1⟩ := loopN_step h
  replace hm1 : n1 = m1 + 1 := hm1
  subst hm1
  replace h : rank_place_l2s p0 p1 v2_2 = some x1 := h
  delta rank_place_l2s at h
  refine Exists.intro none ?_
  obtain ⟨x1_9, e1_9, h⟩ := bS h
  obtain ⟨x1_15, e1_15, h⟩ := bS h
  refine Exists.intro (some (⟨Unit, fun _ => [(.tmp 0, .av (.lst 3 false (List.map enc_api_Entry p0))), (.tmp 1, .av (.int .i64 p1)), (.tmp 2, .av (.int .i64 v2_2)), (.tmp 27, .av (.sb ((decide ((w64 (v2_2 + (1:Int))) < (p0.length : Int))) && (decide ((rank_far x1_9 p1) < (rank_far x1_15 p1))))))], fun _ => True, fun _ => 0⟩, 1000000)) (And.intro ?_ (fun _ _ => ?_))
  · skip
    refine Exists.intro [.int .i64 (p0.length : Int)] (And.intro (lenS enc_api_Entry p0) ?_)
    refine And.intro (fun g1 => ?_) (fun g1 => ?_)
    · skip
      refine Exists.intro [.int .i64 x1_9.V, .int .i64 x1_9.Min, .int .i64 x1_9.Max] (And.intro (idx_map enc_api_Entry (gdT g1 e1_9)) ?_)
      refine Exists.intro (CK.plain _ _) (And.intro (Contract.wk (c_rank_far x1_9 p1) (And.intro rfl (And.intro rfl (And.intro rfl (And.intro rfl trivial))))) (And.intro rfl ?_))
      refine Exists.intro [.int .i64 x1_15.V, .int .i64 x1_15.Min, .int .i64 x1_15.Max] (And.intro (idx_map enc_api_Entry (gdT g1 e1_15)) ?_)
      refine Exists.intro (CK.plain _ _) (And.intro (Contract.wk (c_rank_far x1_15 p1) (And.intro rfl (And.intro rfl (And.intro rfl (And.intro rfl trivial))))) (And.intro rfl ?_))
      exact Exists.intro [] (Exists.intro [] (Exists.intro () (And.intro trivial (And.intro rfl (And.intro ff (And.intro rfl (And.intro rfl (And.intro rfl (And.intro (Eq.symm (aR g1 rfl)) trivial)))))))))
    · skip
      exact Exists.intro [] (Exists.intro [] (Exists.intro () (And.intro trivial (And.intro rfl (And.intro ff (And.intro rfl (And.intro rfl (And.intro rfl (And.intro (Eq.symm (aL g1)) trivial)))))))))
  · skip
    refine And.intro (fun g2 => ?_) (fun g2 => ?_)
    · skip
      replace h := cT g2 h
      refine Exists.intro none ?_
      exact Exists.intro [] (Exists.intro [] (Exists.intro ((w64 (v2_2 + (1:Int))), m1) (And.intro (hl1 (w64 (v2_2 + (1:Int))) (Option.some.inj h).symm) (And.intro (Nat.lt_succ_self m1) (And.intro rfl (And.intro ff (And.intro rfl (And.intro rfl (And.intro rfl trivial)))))))))
    · skip
      replace h := cF g2 h
      replace h := popS h hr1
      refine Exists.intro none ?_
      replace h := Option.some.inj h
      first | subst h | rw [← h]
      exact (And.intro rfl trivial)

theorem c_rank_At (p0 : api_Ranks) (p1 : Int) (r : (Int × Int)) (h : rank_At p0 p1 = some r) : Contract Try.prog 22 [.agg [.int .i64 p0.N, .lst 3 false (List.map enc_api_Entry p0.Entries)], .int .i64 p1] [] (.tup [.int .i64 r.1, .int .i64 r.2]) [] := by
  refine contract_of_vcs tab_ok orders_ok Try.func22 Try.call22 (by kernel_rfl) 0 rfl rfl _ rfl ?_
  delta rank_At at h
  refine Exists.intro none ?_
  refine Exists.intro none ?_
  obtain ⟨y1_1, e1_1, h⟩ := bS h
  refine Exists.intro (CK.plain _ _) (And.intro (Contract.wk (c_rank_Validate p0 y1_1 e1_1) (And.intro rfl (And.intro ff (And.intro rfl trivial)))) (And.intro rfl ?_))
  refine Exists.intro none ?_
  refine And.intro (fun g1 => ?_) (fun g1 => ?_)
  · skip
    replace h := cT g1 h
    refine Exists.intro none ?_
    replace h := Option.some.inj h
    first | subst h | rw [← h]
    exact (And.intro rfl (And.intro rfl trivial))
  · skip
    replace h := cF g1 h
    refine Exists.intro none ?_
    refine Exists.intro none ?_
    refine And.intro (fun g2 => ?_) (fun g2 => ?_)
    · skip
      refine And.intro (fun g3 => ?_) (fun g3 => ?_)
      · skip
        replace h := cT (oR g2 g3) h
        refine Exists.intro none ?_
        replace h := Option.some.inj h
        first | subst h | rw [← h]
        exact (And.intro rfl (And.intro rfl trivial))
      · skip
        replace h := cF (oR g2 g3) h
        refine Exists.intro none ?_
        obtain ⟨y6_5, e6_5, h⟩ := bS h
        obtain ⟨x6_6, e6_6, h⟩ := bS h
        refine Exists.intro (CK.plain _ _) (And.intro (Contract.wk (c_rank_place p0.Entries p1 (0:Int) y6_5 e6_5) (And.intro ff (And.intro rfl (And.intro rfl (And.intro rfl trivial))))) (And.intro rfl ?_))
        refine Exists.intro [.int .i64 x6_6.V, .int .i64 x6_6.Min, .int .i64 x6_6.Max] (And.intro (idx_map enc_api_Entry e6_6) ?_)
        replace h := Option.some.inj h
        first | subst h | rw [← h]
        exact (And.intro rfl (And.intro rfl trivial))
    · skip
      replace h := cT (oL g2) h
      refine Exists.intro none ?_
      replace h := Option.some.inj h
      first | subst h | rw [← h]
      exact (And.intro rfl (And.intro rfl trivial))

theorem c_ref20_For (p0 : (List api_Entry)) (p1 : Int) (r : Int) (h : ref20_For p0 p1 = some r) : Contract Try.prog 54 [.lst 3 false (List.map enc_api_Entry p0), .int .i64 p1] [] (.int .i64 r) [] := by
  refine contract_of_vcs tab_ok orders_ok Try.func54 Try.call54 (by kernel_rfl) 0 rfl rfl _ rfl ?_
  delta ref20_For at h
  refine Exists.intro none ?_
  refine Exists.intro none ?_
  refine Exists.intro none ?_
  refine Exists.intro [.int .i64 (p0.length : Int)] (And.intro (lenS enc_api_Entry p0) ?_)
  replace h : ref20_For_l2 p0 p1 (0:Int) (0:Int) = some r := h
  delta ref20_For_l2 at h
  obtain ⟨n1, h⟩ := loopS h
  refine Exists.intro ⟨(Int × Int) × Nat, fun q => [(.tmp 0, .av (.lst 3 false (List.map enc_api_Entry p0))), (.tmp 1, .av (.int .i64 p1)), (.tmp 5, .av (.int .i64 q.1.1)), (.tmp 8, .av (.lst 3 false (List.map enc_api_Entry p0))), (.tmp 9, .av (.int .i64 (p0.length : Int))), (.tmp 10, .av (.int .i64 q.1.2))], fun q => loopN (fun (s : (Int × Int)) => ref20_For_l2s p0 p1 s.1 s.2) q.2 q.1 = some r, fun q => q.2⟩ (And.intro (Exists.intro [] (Exists.intro [] (Exists.intro (((0:Int), (0:Int)), n1) (And.intro h (And.intro rfl (And.intro ff (And.intro rfl (And.intro rfl (And.intro rfl (And.intro ff (And.intro rfl (And.intro rfl (And.intro rfl trivial))))))))))))) ?_)
  clear h
  refine fun q h => ?_
  obtain ⟨⟨v2_5, v2_10⟩, n1⟩ := q
  obtain ⟨m1, x1, hm1, h, hl1, hr1⟩ := loopN_step h
  replace hm1 : n1 = m1 + 1 := hm1
  subst hm1
  replace h : ref20_For_l2s p0 p1 v2_5 v2_10 = some x1 := h
  delta ref20_For_l2s at h
  refine Exists.intro none ?_
  refine And.intro (fun g1 => ?_) (fun g1 => ?_)
  · skip
    replace h := cT g1 h
    refine Exists.intro none ?_
    refine Exists.intro none ?_
    obtain ⟨x4_1, e4_1, h⟩ := bS h
    refine Exists.intro [.int .i64 x4_1.V, .int .i64 x4_1.Min, .int .i64 x4_1.Max] (And.intro (idx_map enc_api_Entry e4_1) ?_)
    refine Exists.intro none ?_
    obtain ⟨x5_12, e5_12, h⟩ := bS h
    obtain ⟨x5_18, e5_18, h⟩ := bS h
    refine Exists.intro [.int .i64 x5_12.V, .int .i64 x5_12.Min, .int .i64 x5_12.Max] (And.intro (idx_map enc_api_Entry e5_12) ?_)
    refine Exists.intro [.int .i64 x5_18.V, .int .i64 x5_18.Min, .int .i64 x5_18.Max] (And.intro (idx_map enc_api_Entry e5_18) ?_)
    refine Exists.intro none ?_
    refine And.intro (fun g2 => ?_) (fun g2 => ?_)
    · skip
      replace h := cT g2 h
      refine Exists.intro none ?_
      refine Exists.intro none ?_
      exact Exists.intro [] (Exists.intro [] (Exists.intro ((v2_10, (w64 (v2_10 + (1:Int)))), m1) (And.intro (hl1 (v2_10, (w64 (v2_10 + (1:Int)))) (Option.some.inj h).symm) (And.intro (Nat.lt_succ_self m1) (And.intro rfl (And.intro ff (And.intro rfl (And.intro rfl (And.intro rfl (And.intro ff (And.intro rfl (And.intro rfl (And.intro rfl trivial)))))))))))))
    · skip
      replace h := cF g2 h
      refine Exists.intro none ?_
      exact Exists.intro [] (Exists.intro [] (Exists.intro ((v2_5, (w64 (v2_10 + (1:Int)))), m1) (And.intro (hl1 (v2_5, (w64 (v2_10 + (1:Int)))) (Option.some.inj h).symm) (And.intro (Nat.lt_succ_self m1) (And.intro rfl (And.intro ff (And.intro rfl (And.intro rfl (And.intro rfl (And.intro ff (And.intro rfl (And.intro rfl (And.intro rfl trivial)))))))))))))
  · skip
    replace h := cF g1 h
    replace h := popS h hr1
    refine Exists.intro none ?_
    replace h := Option.some.inj h
    first | subst h | rw [← h]
    exact (And.intro rfl trivial)

theorem c_ratio_Of' (p0 : Int) (r : api_Ratio) (h : ratio_Of p0 = r) : Contract Try.prog 78 [.int .i64 p0] [] (.agg [.int .i64 r.Num, .int .i64 r.Den]) [] := by
  refine contract_of_vcs tab_ok orders_ok Try.func78 Try.call78 (by kernel_rfl) 0 rfl rfl _ rfl ?_
  delta ratio_Of at h
  refine Exists.intro none ?_
  refine Exists.intro none ?_
  first | subst h | rw [← h]
  exact (And.intro rfl (And.intro rfl trivial))
theorem c_ratio_Of (p0 : Int) : Contract Try.prog 78 [.int .i64 p0] [] (.agg [.int .i64 (ratio_Of p0).Num, .int .i64 (ratio_Of p0).Den]) [] := c_ratio_Of' p0 (ratio_Of p0) rfl

theorem c_bounds_Whole' (p0 : Int) (p1 : Int) (r : (api_Bounds × Bool)) (h : bounds_Whole p0 p1 = r) : Contract Try.prog 57 [.int .i64 p0, .int .i64 p1] [] (.tup [.agg [.int .i64 r.1.Lo.Num, .int .i64 r.1.Lo.Den, .int .i64 r.1.Est.Num, .int .i64 r.1.Est.Den, .int .i64 r.1.Hi.Num, .int .i64 r.1.Hi.Den], .sb r.2]) [] := by
  refine contract_of_vcs tab_ok orders_ok Try.func57 Try.call57 (by kernel_rfl) 0 rfl rfl _ rfl ?_
  delta bounds_Whole at h
  refine Exists.intro none ?_
  refine Exists.intro none ?_
  refine And.intro (fun g1 => ?_) (fun g1 => ?_)
  · skip
    replace h := cT g1 h
    refine Exists.intro none ?_
    first | subst h | rw [← h]
    exact (And.intro rfl (And.intro rfl (And.intro rfl (And.intro rfl (And.intro rfl (And.intro rfl (And.intro rfl trivial)))))))
  · skip
    replace h := cF g1 h
    refine Exists.intro none ?_
    refine And.intro (by decide) ?_
    refine Exists.intro none ?_
    refine Exists.intro (CK.plain _ _) (And.intro (Contract.wk (c_ratio_Of p0) (And.intro rfl trivial)) (And.intro rfl ?_))
    refine Exists.intro (CK.plain _ _) (And.intro (Contract.wk (c_ratio_Of (w64 ((iand .i64 p0 p1) + (ishr .i64 (ixor .i64 p0 p1) (1:Int))))) (And.intro rfl trivial)) (And.intro rfl ?_))
    refine Exists.intro (CK.plain _ _) (And.intro (Contract.wk (c_ratio_Of p1) (And.intro rfl trivial)) (And.intro rfl ?_))
    first | subst h | rw [← h]
    exact (And.intro rfl (And.intro rfl (And.intro rfl (And.intro rfl (And.intro rfl (And.intro rfl (And.intro rfl trivial)))))))
theorem c_bounds_Whole (p0 : Int) (p1 : Int) : Contract Try.prog 57 [.int .i64 p0, .int .i64 p1] [] (.tup [.agg [.int .i64 (bounds_Whole p0 p1).1.Lo.Num, .int .i64 (bounds_Whole p0 p1).1.Lo.Den, .int .i64 (bounds_Whole p0 p1).1.Est.Num, .int .i64 (bounds_Whole p0 p1).1.Est.Den, .int .i64 (bounds_Whole p0 p1).1.Hi.Num, .int .i64 (bounds_Whole p0 p1).1.Hi.Den], .sb (bounds_Whole p0 p1).2]) [] := c_bounds_Whole' p0 p1 (bounds_Whole p0 p1) rfl

theorem c_rank_Rank (p0 : api_Ranks) (p1 : Int) (r : (api_Bounds × Int)) (h : rank_Rank p0 p1 = some r) : Contract Try.prog 32 [.agg [.int .i64 p0.N, .lst 3 false (List.map enc_api_Entry p0.Entries)], .int .i64 p1] [] (.tup [.agg [.int .i64 r.1.Lo.Num, .int .i64 r.1.Lo.Den, .int .i64 r.1.Est.Num, .int .i64 r.1.Est.Den, .int .i64 r.1.Hi.Num, .int .i64 r.1.Hi.Den], .int .i64 r.2]) [] := by
  refine contract_of_vcs tab_ok orders_ok Try.func32 Try.call32 (by kernel_rfl) 0 rfl rfl _ rfl ?_
  delta rank_Rank at h
  refine Exists.intro none ?_
  refine Exists.intro none ?_
  obtain ⟨y1_1, e1_1, h⟩ := bS h
  refine Exists.intro (CK.plain _ _) (And.intro (Contract.wk (c_rank_Validate p0 y1_1 e1_1) (And.intro rfl (And.intro ff (And.intro rfl trivial)))) (And.intro rfl ?_))
  refine Exists.intro none ?_
  refine And.intro (fun g1 => ?_) (fun g1 => ?_)
  · skip
    replace h := cT g1 h
    refine Exists.intro none ?_
    replace h := Option.some.inj h
    first | subst h | rw [← h]
    exact (And.intro rfl (And.intro rfl (And.intro rfl (And.intro rfl (And.intro rfl (And.intro rfl (And.intro rfl trivial)))))))
  · skip
    replace h := cF g1 h
    refine Exists.intro none ?_
    refine Exists.intro none ?_
    refine Exists.intro [.int .i64 (p0.Entries.length : Int)] (And.intro (lenS enc_api_Entry p0.Entries) ?_)
    refine Exists.intro (some (⟨Int × Int, fun q => [(.tmp 4, .av (.ptr 1 0)), (.tmp 7, .av (.int .i64 q.1)), (.tmp 8, .av (.int .i64 q.2)), (.box 1, .box [.int .i64 (0:Int), .int .i64 (0:Int), .int .i64 (0:Int), .int .i64 (0:Int), .int .i64 (0:Int), .int .i64 (0:Int)])], fun q => rank_Rank_j2 q.1 q.2 = some r, fun _ => 0⟩, 1000000)) (And.intro ?_ ?_)
    · skip
      replace h : rank_Rank_l3 p0 p1 (0:Int) (0:Int) = some r := h
      delta rank_Rank_l3 at h
      obtain ⟨n1, h⟩ := loopS h
      refine Exists.intro ⟨(Int × Int) × Nat, fun q => [(.tmp 1, .av (.int .i64 p1)), (.tmp 4, .av (.ptr 1 0)), (.tmp 7, .av (.int .i64 q.1.1)), (.tmp 8, .av (.int .i64 p0.N)), (.tmp 22, .av (.lst 3 false (List.map enc_api_Entry p0.Entries))), (.tmp 23, .av (.int .i64 (p0.Entries.length : Int))), (.tmp 24, .av (.int .i64 q.1.2)), (.box 1, .box [.int .i64 (0:Int), .int .i64 (0:Int), .int .i64 (0:Int), .int .i64 (0:Int), .int .i64 (0:Int), .int .i64 (0:Int)])], fun q => loopN (fun (s : (Int × Int)) => rank_Rank_l3s p0 p1 s.1 s.2) q.2 q.1 = some r, fun q => q.2⟩ (And.intro (Exists.intro [] (Exists.intro [] (Exists.intro (((0:Int), (0:Int)), n1) (And.intro h (And.intro rfl (And.intro rfl (And.intro rfl (And.intro rfl (And.intro ff (And.intro rfl (And.intro rfl (And.intro rfl (And.intro rfl (And.intro rfl (And.intro rfl (And.intro rfl (And.intro rfl (And.intro rfl trivial)))))))))))))))))) ?_)
      clear h
      refine fun q h => ?_
      obtain ⟨⟨v3_7, v3_24⟩, n1⟩ := q
      obtain ⟨m1, x1, hm1, h, hl1, hr1⟩ := loopN_step h
      replace hm1 : n1 = m1 + 1 := hm1
      subst hm1
      replace h : rank_Rank_l3s p0 p1 v3_7 v3_24 = some x1 := h
      delta rank_Rank_l3s at h
      refine Exists.intro none ?_
      refine And.intro (fun g2 => ?_) (fun g2 => ?_)
      · skip
        replace h := cT g2 h
        refine Exists.intro none ?_
        obtain ⟨x7_0, e7_0, h⟩ := bS h
        refine Exists.intro [.int .i64 x7_0.V, .int .i64 x7_0.Min, .int .i64 x7_0.Max] (And.intro (idx_map enc_api_Entry e7_0) ?_)
        refine Exists.intro none ?_
        refine And.intro (fun g3 => ?_) (fun g3 => ?_)
        · skip
          replace h := cT g3 h
          refine Exists.intro none ?_
          replace h := popS h hr1
          exact Exists.intro [] (Exists.intro [] (Exists.intro (v3_7, (w64 (x7_0.Max - (1:Int)))) (And.intro h (And.intro rfl (And.intro rfl (And.intro rfl (And.intro rfl (And.intro rfl (And.intro rfl (And.intro rfl (And.intro rfl (And.intro rfl trivial))))))))))))
        · skip
          replace h := cF g3 h
          refine Exists.intro none ?_
          refine Exists.intro none ?_
          exact Exists.intro [] (Exists.intro [] (Exists.intro ((x7_0.Min, (w64 (v3_24 + (1:Int)))), m1) (And.intro (hl1 (x7_0.Min, (w64 (v3_24 + (1:Int)))) (Option.some.inj h).symm) (And.intro (Nat.lt_succ_self m1) (And.intro rfl (And.intro rfl (And.intro rfl (And.intro rfl (And.intro ff (And.intro rfl (And.intro rfl (And.intro rfl (And.intro rfl (And.intro rfl (And.intro rfl (And.intro rfl (And.intro rfl (And.intro rfl trivial))))))))))))))))))
      · skip
        replace h := cF g2 h
        replace h := popS h hr1
        exact Exists.intro [] (Exists.intro [] (Exists.intro (v3_7, p0.N) (And.intro h (And.intro rfl (And.intro rfl (And.intro rfl (And.intro rfl (And.intro rfl (And.intro rfl (And.intro rfl (And.intro rfl (And.intro rfl trivial))))))))))))
    · skip
      clear h
      refine fun q h => ?_
      obtain ⟨j2_7, j2_8⟩ := q
      replace h : rank_Rank_j2 j2_7 j2_8 = some r := h
      delta rank_Rank_j2 at h
      refine Exists.intro none ?_
      refine Exists.intro (CK.plain _ _) (And.intro (Contract.wk (c_bounds_Whole j2_7 j2_8) (And.intro rfl (And.intro rfl trivial))) (And.intro rfl ?_))
      refine Exists.intro none ?_
      replace h := Option.some.inj h
      first | subst h | rw [← h]
      exact (And.intro rfl (And.intro rfl (And.intro rfl (And.intro rfl (And.intro rfl (And.intro rfl (And.intro rfl trivial)))))))

theorem c_math_bits_Mul64' (p0 : Int) (p1 : Int) (r : (Int × Int)) (h : math_bits_Mul64 p0 p1 = r) : Contract Try.prog 93 [.int .u64 p0, .int .u64 p1] [] (.tup [.int .u64 r.1, .int .u64 r.2]) [] := by
  refine contract_of_vcs tab_ok orders_ok Try.func93 Try.call93 (by kernel_rfl) 0 rfl rfl _ rfl ?_
  delta math_bits_Mul64 at h
  refine Exists.intro none ?_
  refine Exists.intro none ?_
  refine Exists.intro none ?_
  refine And.intro (by decide) ?_
  refine Exists.intro none ?_
  refine Exists.intro none ?_
  refine And.intro (by decide) ?_
  refine Exists.intro none ?_
  refine Exists.intro none ?_
  refine And.intro (by decide) ?_
  refine Exists.intro none ?_
  refine Exists.intro none ?_
  refine And.intro (by decide) ?_
  refine Exists.intro none ?_
  refine Exists.intro none ?_
  refine And.intro (by decide) ?_
  refine Exists.intro none ?_
  first | subst h | rw [← h]
  exact (And.intro rfl (And.intro rfl trivial))
theorem c_math_bits_Mul64 (p0 : Int) (p1 : Int) : Contract Try.prog 93 [.int .u64 p0, .int .u64 p1] [] (.tup [.int .u64 (math_bits_Mul64 p0 p1).1, .int .u64 (math_bits_Mul64 p0 p1).2]) [] := c_math_bits_Mul64' p0 p1 (math_bits_Mul64 p0 p1) rfl

theorem c_wide_Product' (p0 : Int) (p1 : Int) (r : api_Wide) (h : wide_Product p0 p1 = r) : Contract Try.prog 61 [.int .u64 p0, .int .u64 p1] [] (.agg [.int .u64 r.Hi, .int .u64 r.Lo]) [] := by
  refine contract_of_vcs tab_ok orders_ok Try.func61 Try.call61 (by kernel_rfl) 0 rfl rfl _ rfl ?_
  delta wide_Product at h
  refine Exists.intro none ?_
  refine Exists.intro none ?_
  refine Exists.intro (CK.plain _ _) (And.intro (Contract.wk (c_math_bits_Mul64 p0 p1) (And.intro rfl (And.intro rfl trivial))) (And.intro rfl ?_))
  refine Exists.intro none ?_
  first | subst h | rw [← h]
  exact (And.intro rfl (And.intro rfl trivial))
theorem c_wide_Product (p0 : Int) (p1 : Int) : Contract Try.prog 61 [.int .u64 p0, .int .u64 p1] [] (.agg [.int .u64 (wide_Product p0 p1).Hi, .int .u64 (wide_Product p0 p1).Lo]) [] := c_wide_Product' p0 p1 (wide_Product p0 p1) rfl

theorem c_wide_Of' (p0 : Int) (r : api_Wide) (h : wide_Of p0 = r) : Contract Try.prog 62 [.int .u64 p0] [] (.agg [.int .u64 r.Hi, .int .u64 r.Lo]) [] := by
  refine contract_of_vcs tab_ok orders_ok Try.func62 Try.call62 (by kernel_rfl) 0 rfl rfl _ rfl ?_
  delta wide_Of at h
  refine Exists.intro none ?_
  refine Exists.intro none ?_
  first | subst h | rw [← h]
  exact (And.intro rfl (And.intro rfl trivial))
theorem c_wide_Of (p0 : Int) : Contract Try.prog 62 [.int .u64 p0] [] (.agg [.int .u64 (wide_Of p0).Hi, .int .u64 (wide_Of p0).Lo]) [] := c_wide_Of' p0 (wide_Of p0) rfl

theorem c_wide_zero' (p0 : api_Wide) (r : Bool) (h : wide_zero p0 = r) : Contract Try.prog 88 [.agg [.int .u64 p0.Hi, .int .u64 p0.Lo]] [] (.sb r) [] := by
  refine contract_of_vcs tab_ok orders_ok Try.func88 Try.call88 (by kernel_rfl) 0 rfl rfl _ rfl ?_
  delta wide_zero at h
  refine Exists.intro none ?_
  refine Exists.intro none ?_
  refine Exists.intro none ?_
  refine And.intro (fun g1 => ?_) (fun g1 => ?_)
  · skip
    first | subst h | rw [← h]
    exact (And.intro (Eq.symm (aR g1 rfl)) trivial)
  · skip
    first | subst h | rw [← h]
    exact (And.intro (Eq.symm (aL g1)) trivial)
theorem c_wide_zero (p0 : api_Wide) : Contract Try.prog 88 [.agg [.int .u64 p0.Hi, .int .u64 p0.Lo]] [] (.sb (wide_zero p0)) [] := c_wide_zero' p0 (wide_zero p0) rfl

theorem c_wide_Bits (p0 : api_Wide) (r : Int) (h : wide_Bits p0 = some r) : Contract Try.prog 89 [.agg [.int .u64 p0.Hi, .int .u64 p0.Lo]] [] (.int .i64 r) [] := by
  refine contract_of_vcs tab_ok orders_ok Try.func89 Try.call89 (by kernel_rfl) 0 rfl rfl _ rfl ?_
  delta wide_Bits at h
  refine Exists.intro none ?_
  refine Exists.intro none ?_
  refine And.intro (fun g1 => ?_) (fun g1 => ?_)
  · skip
    replace h := cT g1 h
    refine Exists.intro none ?_
    obtain ⟨y2_2, e2_2, h⟩ := bS h
    refine Exists.intro (CK.plain _ _) (And.intro (Contract.wk (c_math_bits_Len64 p0.Hi y2_2 e2_2) (And.intro rfl trivial)) (And.intro rfl ?_))
    replace h := Option.some.inj h
    first | subst h | rw [← h]
    exact (And.intro rfl trivial)
  · skip
    replace h := cF g1 h
    refine Exists.intro none ?_
    obtain ⟨y3_2, e3_2, h⟩ := bS h
    refine Exists.intro (CK.plain _ _) (And.intro (Contract.wk (c_math_bits_Len64 p0.Lo y3_2 e3_2) (And.intro rfl trivial)) (And.intro rfl ?_))
    replace h := Option.some.inj h
    first | subst h | rw [← h]
    exact (And.intro rfl trivial)

theorem c_wide_bit (p0 : api_Wide) (p1 : Int) (r : Int) (h : wide_bit p0 p1 = some r) : Contract Try.prog 90 [.agg [.int .u64 p0.Hi, .int .u64 p0.Lo], .int .i64 p1] [] (.int .u64 r) [] := by
  refine contract_of_vcs tab_ok orders_ok Try.func90 Try.call90 (by kernel_rfl) 0 rfl rfl _ rfl ?_
  delta wide_bit at h
  refine Exists.intro none ?_
  refine Exists.intro none ?_
  refine And.intro (fun g1 => ?_) (fun g1 => ?_)
  · skip
    replace h := cT g1 h
    refine Exists.intro none ?_
    obtain ⟨k2_5, h⟩ := ckS h
    refine And.intro (of_decide_eq_true k2_5) ?_
    replace h := Option.some.inj h
    first | subst h | rw [← h]
    exact (And.intro rfl trivial)
  · skip
    replace h := cF g1 h
    refine Exists.intro none ?_
    obtain ⟨k3_4, h⟩ := ckS h
    refine And.intro (of_decide_eq_true k3_4) ?_
    replace h := Option.some.inj h
    first | subst h | rw [← h]
    exact (And.intro rfl trivial)

theorem c_wide_Compare' (p0 : api_Wide) (p1 : api_Wide) (r : Int) (h : wide_Compare p0 p1 = r) : Contract Try.prog 91 [.agg [.int .u64 p0.Hi, .int .u64 p0.Lo], .agg [.int .u64 p1.Hi, .int .u64 p1.Lo]] [] (.int .i64 r) [] := by
  refine contract_of_vcs tab_ok orders_ok Try.func91 Try.call91 (by kernel_rfl) 0 rfl rfl _ rfl ?_
  delta wide_Compare at h
  refine Exists.intro none ?_
  refine Exists.intro none ?_
  refine Exists.intro (some (⟨Unit, fun _ => [(.tmp 2, .av (.ptr 0 0)), (.tmp 3, .av (.ptr 1 0)), (.tmp 5, .av (.sb ((decide (p0.Hi < p1.Hi)) || ((p0.Hi == p1.Hi) && (decide (p0.Lo < p1.Lo)))))), (.box 0, .box [.int .u64 p0.Hi, .int .u64 p0.Lo]), (.box 1, .box [.int .u64 p1.Hi, .int .u64 p1.Lo])], fun _ => True, fun _ => 0⟩, 1000000)) (And.intro ?_ (fun _ _ => ?_))
  · skip
    refine And.intro (fun g1 => ?_) (fun g1 => ?_)
    · skip
      refine And.intro (fun g2 => ?_) (fun g2 => ?_)
      · skip
        exact Exists.intro [] (Exists.intro [] (Exists.intro () (And.intro trivial (And.intro rfl (And.intro (Eq.symm (oR g1 (aR g2 rfl))) (And.intro rfl (And.intro rfl (And.intro rfl (And.intro rfl trivial)))))))))
      · skip
        exact Exists.intro [] (Exists.intro [] (Exists.intro () (And.intro trivial (And.intro rfl (And.intro (Eq.symm (oR g1 (aL g2))) (And.intro rfl (And.intro rfl (And.intro rfl (And.intro rfl trivial)))))))))
    · skip
      exact Exists.intro [] (Exists.intro [] (Exists.intro () (And.intro trivial (And.intro rfl (And.intro (Eq.symm (oL g1)) (And.intro rfl (And.intro rfl (And.intro rfl (And.intro rfl trivial)))))))))
  · skip
    refine And.intro (fun g3 => ?_) (fun g3 => ?_)
    · skip
      replace h := cT g3 h
      refine Exists.intro none ?_
      first | subst h | rw [← h]
      exact (And.intro rfl trivial)
    · skip
      replace h := cF g3 h
      refine Exists.intro none ?_
      refine And.intro (fun g4 => ?_) (fun g4 => ?_)
      · skip
        replace h := cT g4 h
        refine Exists.intro none ?_
        first | subst h | rw [← h]
        exact (And.intro rfl trivial)
      · skip
        replace h := cF g4 h
        refine Exists.intro none ?_
        first | subst h | rw [← h]
        exact (And.intro rfl trivial)
theorem c_wide_Compare (p0 : api_Wide) (p1 : api_Wide) : Contract Try.prog 91 [.agg [.int .u64 p0.Hi, .int .u64 p0.Lo], .agg [.int .u64 p1.Hi, .int .u64 p1.Lo]] [] (.int .i64 (wide_Compare p0 p1)) [] := c_wide_Compare' p0 p1 (wide_Compare p0 p1) rfl

theorem c_math_bits_Sub64 (p0 p1 p2 : Int) (r : (Int × Int)) (h : math_bits_Sub64 p0 p1 p2 = some r) : Contract Try.prog 92 [.int .u64 p0, .int .u64 p1, .int .u64 p2] [] (.tup [.int .u64 r.1, .int .u64 r.2]) [] :=
  ext_Sub64 Try.func92 (by kernel_rfl) (by kernel_rfl) (by kernel_rfl) (by kernel_rfl) p0 p1 p2 r h

theorem c_wide_Div (p0 : api_Wide) (p1 : api_Wide) (r : (api_Wide × api_Wide × Bool)) (h : wide_Div p0 p1 = some r) : Contract Try.prog 60 [.agg [.int .u64 p0.Hi, .int .u64 p0.Lo], .agg [.int .u64 p1.Hi, .int .u64 p1.Lo]] [] (.tup [.agg [.int .u64 r.1.Hi, .int .u64 r.1.Lo], .agg [.int .u64 r.2.1.Hi, .int .u64 r.2.1.Lo], .sb r.2.2]) [] := by
  refine contract_of_vcs tab_ok orders_ok Try.func60 Try.call60 (by kernel_rfl) 0 rfl rfl _ rfl ?_
  delta wide_Div at h
  refine Exists.intro none ?_
  refine Exists.intro none ?_
  refine Exists.intro (CK.plain _ _) (And.intro (Contract.wk (c_wide_zero p1) (And.intro rfl (And.intro rfl trivial))) (And.intro rfl ?_))
  refine And.intro (fun g1 => ?_) (fun g1 => ?_)
  · skip
    replace h := cT g1 h
    refine Exists.intro none ?_
    replace h := Option.some.inj h
    first | subst h | rw [← h]
    exact (And.intro rfl (And.intro rfl (And.intro rfl (And.intro rfl (And.intro rfl trivial)))))
  · skip
    replace h := cF g1 h
    refine Exists.intro none ?_
    refine Exists.intro none ?_
    obtain ⟨y4_1, e4_1, h⟩ := bS h
    refine Exists.intro (CK.plain _ _) (And.intro (Contract.wk (c_wide_Bits p0 y4_1 e4_1) (And.intro rfl (And.intro rfl trivial))) (And.intro rfl ?_))
    replace h : wide_Div_l3 p0 p1 (w64 (y4_1 - (1:Int))) (0:Int) (0:Int) (0:Int) (0:Int) = some r := h
    delta wide_Div_l3 at h
    obtain ⟨n1, h⟩ := loopS h
    refine Exists.intro ⟨(Int × Int × Int × Int × Int) × Nat, fun q => [(.tmp 2, .av (.ptr 0 0)), (.tmp 3, .av (.ptr 1 0)), (.tmp 4, .av (.ptr 2 0)), (.tmp 5, .av (.ptr 3 0)), (.tmp 7, .av (.ptr 512 0)), (.tmp 8, .av (.ptr 513 0)), (.tmp 9, .av (.int .i64 q.1.1)), (.box 0, .box [.int .u64 p0.Hi, .int .u64 p0.Lo]), (.box 1, .box [.int .u64 p1.Hi, .int .u64 p1.Lo]), (.box 2, .box [.int .u64 (0:Int), .int .u64 (0:Int)]), (.box 3, .box [.int .u64 (0:Int), .int .u64 (0:Int)]), (.box 512, .box [.int .u64 q.1.2.1, .int .u64 q.1.2.2.1]), (.box 513, .box [.int .u64 q.1.2.2.2.1, .int .u64 q.1.2.2.2.2])], fun q => loopN (fun (s : (Int × Int × Int × Int × Int)) => wide_Div_l3s p0 p1 s.1 s.2.1 s.2.2.1 s.2.2.2.1 s.2.2.2.2) q.2 q.1 = some r, fun q => q.2⟩ (And.intro (Exists.intro [] (Exists.intro [] (Exists.intro (((w64 (y4_1 - (1:Int))), (0:Int), (0:Int), (0:Int), (0:Int)), n1) (And.intro h (And.intro rfl (And.intro rfl (And.intro rfl (And.intro rfl (And.intro rfl (And.intro rfl (And.intro rfl (And.intro rfl (And.intro rfl (And.intro rfl (And.intro rfl (And.intro rfl (And.intro rfl (And.intro rfl trivial)))))))))))))))))) ?_)
    clear h
    refine fun q h => ?_
    obtain ⟨⟨v3_9, v3_b3x0_0, v3_b3x0_1, v3_b3x1_0, v3_b3x1_1⟩, n1⟩ := q
    obtain ⟨m1, x1, hm1, h, hl1, hr1⟩ := loopN_step h
    replace hm1 : n1 = m1 + 1 := hm1
    subst hm1
    replace h : wide_Div_l3s p0 p1 v3_9 v3_b3x0_0 v3_b3x0_1 v3_b3x1_0 v3_b3x1_1 = some x1 := h
    delta wide_Div_l3s at h
    refine Exists.intro none ?_
    refine And.intro (fun g2 => ?_) (fun g2 => ?_)
    · skip
      replace h := cT g2 h
      refine Exists.intro none ?_
      refine Exists.intro none ?_
      refine And.intro (by decide) ?_
      refine Exists.intro none ?_
      obtain ⟨y8_12, e8_12, h⟩ := bS h
      refine And.intro (by decide) ?_
      refine And.intro (by decide) ?_
      refine And.intro (by decide) ?_
      refine Exists.intro (CK.plain _ _) (And.intro (Contract.wk (c_wide_bit p0 v3_9 y8_12 e8_12) (And.intro rfl (And.intro rfl (And.intro rfl trivial)))) (And.intro rfl ?_))
      refine Exists.intro none ?_
      refine And.intro (by decide) ?_
      refine And.intro (by decide) ?_
      refine And.intro (by decide) ?_
      refine Exists.intro none ?_
      refine Exists.intro (some (⟨Unit, fun _ => [(.tmp 2, .av (.ptr 0 0)), (.tmp 3, .av (.ptr 1 0)), (.tmp 4, .av (.ptr 2 0)), (.tmp 5, .av (.ptr 3 0)), (.tmp 7, .av (.ptr 512 0)), (.tmp 8, .av (.ptr 513 0)), (.tmp 9, .av (.int .i64 v3_9)), (.tmp 62, .av (.sb (((ishr .u64 v3_b3x1_0 (63:Int)) == (1:Int)) || (decide ((wide_Compare (api_Wide.mk (ior .u64 (ishl .u64 v3_b3x1_0 (1:Int)) (ishr .u64 v3_b3x1_1 (63:Int))) (ior .u64 (ishl .u64 v3_b3x1_1 (1:Int)) y8_12)) p1) ≥ (0:Int)))))), (.box 0, .box [.int .u64 p0.Hi, .int .u64 p0.Lo]), (.box 1, .box [.int .u64 p1.Hi, .int .u64 p1.Lo]), (.box 2, .box [.int .u64 (0:Int), .int .u64 (0:Int)]), (.box 3, .box [.int .u64 (0:Int), .int .u64 (0:Int)]), (.box 512, .box [.int .u64 (ior .u64 (ishl .u64 v3_b3x0_0 (1:Int)) (ishr .u64 v3_b3x0_1 (63:Int))), .int .u64 (ishl .u64 v3_b3x0_1 (1:Int))]), (.box 513, .box [.int .u64 (ior .u64 (ishl .u64 v3_b3x1_0 (1:Int)) (ishr .u64 v3_b3x1_1 (63:Int))), .int .u64 (ior .u64 (ishl .u64 v3_b3x1_1 (1:Int)) y8_12)])], fun _ => True, fun _ => 0⟩, 1000000)) (And.intro ?_ (fun _ _ => ?_))
      · skip
        refine And.intro (fun g3 => ?_) (fun g3 => ?_)
        · skip
          refine Exists.intro (CK.plain _ _) (And.intro (Contract.wk (c_wide_Compare (api_Wide.mk (ior .u64 (ishl .u64 v3_b3x1_0 (1:Int)) (ishr .u64 v3_b3x1_1 (63:Int))) (ior .u64 (ishl .u64 v3_b3x1_1 (1:Int)) y8_12)) p1) (And.intro rfl (And.intro rfl (And.intro rfl (And.intro rfl trivial))))) (And.intro rfl ?_))
          exact Exists.intro [] (Exists.intro [] (Exists.intro () (And.intro trivial (And.intro rfl (And.intro rfl (And.intro (Eq.symm (oR g3 rfl)) (And.intro rfl (And.intro rfl (And.intro rfl (And.intro rfl (And.intro rfl (And.intro rfl (And.intro rfl (And.intro rfl (And.intro rfl (And.intro rfl (And.intro rfl (And.intro rfl trivial))))))))))))))))))
        · skip
          exact Exists.intro [] (Exists.intro [] (Exists.intro () (And.intro trivial (And.intro rfl (And.intro rfl (And.intro (Eq.symm (oL g3)) (And.intro rfl (And.intro rfl (And.intro rfl (And.intro rfl (And.intro rfl (And.intro rfl (And.intro rfl (And.intro rfl (And.intro rfl (And.intro rfl (And.intro rfl (And.intro rfl trivial))))))))))))))))))
      · skip
        refine Exists.intro none ?_
        refine And.intro (fun g4 => ?_) (fun g4 => ?_)
        · skip
          replace h := cT g4 h
          refine Exists.intro none ?_
          obtain ⟨y11_4, e11_4, h⟩ := bS h
          refine Exists.intro (CK.plain _ _) (And.intro (Contract.wk (c_math_bits_Sub64 (ior .u64 (ishl .u64 v3_b3x1_1 (1:Int)) y8_12) p1.Lo (0:Int) y11_4 e11_4) (And.intro rfl (And.intro rfl (And.intro rfl trivial)))) (And.intro rfl ?_))
          refine Exists.intro none ?_
          obtain ⟨y12_5, e12_5, h⟩ := bS h
          refine Exists.intro (CK.plain _ _) (And.intro (Contract.wk (c_math_bits_Sub64 (ior .u64 (ishl .u64 v3_b3x1_0 (1:Int)) (ishr .u64 v3_b3x1_1 (63:Int))) p1.Hi y11_4.2 y12_5 e12_5) (And.intro rfl (And.intro rfl (And.intro rfl trivial)))) (And.intro rfl ?_))
          refine Exists.intro none ?_
          refine Exists.intro none ?_
          refine Exists.intro none ?_
          exact Exists.intro [] (Exists.intro [] (Exists.intro (((w64 (v3_9 - (1:Int))), (ior .u64 (ishl .u64 v3_b3x0_0 (1:Int)) (ishr .u64 v3_b3x0_1 (63:Int))), (ior .u64 (ishl .u64 v3_b3x0_1 (1:Int)) (1:Int)), y12_5.1, y11_4.1), m1) (And.intro (hl1 ((w64 (v3_9 - (1:Int))), (ior .u64 (ishl .u64 v3_b3x0_0 (1:Int)) (ishr .u64 v3_b3x0_1 (63:Int))), (ior .u64 (ishl .u64 v3_b3x0_1 (1:Int)) (1:Int)), y12_5.1, y11_4.1) (Option.some.inj h).symm) (And.intro (Nat.lt_succ_self m1) (And.intro rfl (And.intro rfl (And.intro rfl (And.intro rfl (And.intro rfl (And.intro rfl (And.intro rfl (And.intro rfl (And.intro rfl (And.intro rfl (And.intro rfl (And.intro rfl (And.intro rfl (And.intro rfl trivial))))))))))))))))))
        · skip
          replace h := cF g4 h
          refine Exists.intro none ?_
          exact Exists.intro [] (Exists.intro [] (Exists.intro (((w64 (v3_9 - (1:Int))), (ior .u64 (ishl .u64 v3_b3x0_0 (1:Int)) (ishr .u64 v3_b3x0_1 (63:Int))), (ishl .u64 v3_b3x0_1 (1:Int)), (ior .u64 (ishl .u64 v3_b3x1_0 (1:Int)) (ishr .u64 v3_b3x1_1 (63:Int))), (ior .u64 (ishl .u64 v3_b3x1_1 (1:Int)) y8_12)), m1) (And.intro (hl1 ((w64 (v3_9 - (1:Int))), (ior .u64 (ishl .u64 v3_b3x0_0 (1:Int)) (ishr .u64 v3_b3x0_1 (63:Int))), (ishl .u64 v3_b3x0_1 (1:Int)), (ior .u64 (ishl .u64 v3_b3x1_0 (1:Int)) (ishr .u64 v3_b3x1_1 (63:Int))), (ior .u64 (ishl .u64 v3_b3x1_1 (1:Int)) y8_12)) (Option.some.inj h).symm) (And.intro (Nat.lt_succ_self m1) (And.intro rfl (And.intro rfl (And.intro rfl (And.intro rfl (And.intro rfl (And.intro rfl (And.intro rfl (And.intro rfl (And.intro rfl (And.intro rfl (And.intro rfl (And.intro rfl (And.intro rfl (And.intro rfl trivial))))))))))))))))))
    · skip
      replace h := cF g2 h
      replace h := popS h hr1
      refine Exists.intro none ?_
      replace h := Option.some.inj h
      first | subst h | rw [← h]
      exact (And.intro rfl (And.intro rfl (And.intro rfl (And.intro rfl (And.intro rfl trivial)))))

theorem c_ref08_Asks' (p0 : Int) (p1 : Int) (r : Bool) (h : ref08_Asks p0 p1 = r) : Contract Try.prog 63 [.int .i64 p0, .int .i64 p1] [] (.sb r) [] := by
  refine contract_of_vcs tab_ok orders_ok Try.func63 Try.call63 (by kernel_rfl) 0 rfl rfl _ rfl ?_
  delta ref08_Asks at h
  refine Exists.intro none ?_
  refine Exists.intro none ?_
  refine Exists.intro none ?_
  refine And.intro (fun g1 => ?_) (fun g1 => ?_)
  · skip
    refine And.intro (fun g2 => ?_) (fun g2 => ?_)
    · skip
      first | subst h | rw [← h]
      exact (And.intro (Eq.symm (aR (aR g1 g2) rfl)) trivial)
    · skip
      first | subst h | rw [← h]
      exact (And.intro (Eq.symm (aL (aR g1 g2))) trivial)
  · skip
    first | subst h | rw [← h]
    exact (And.intro (Eq.symm (aL (aL g1))) trivial)
theorem c_ref08_Asks (p0 : Int) (p1 : Int) : Contract Try.prog 63 [.int .i64 p0, .int .i64 p1] [] (.sb (ref08_Asks p0 p1)) [] := c_ref08_Asks' p0 p1 (ref08_Asks p0 p1) rfl

theorem c_ref02_Product' (p0 : Int) (p1 : Int) (r : api_Wide) (h : ref02_Product p0 p1 = r) : Contract Try.prog 95 [.int .u64 p0, .int .u64 p1] [] (.agg [.int .u64 r.Hi, .int .u64 r.Lo]) [] := by
  refine contract_of_vcs tab_ok orders_ok Try.func95 Try.call95 (by kernel_rfl) 0 rfl rfl _ rfl ?_
  delta ref02_Product at h
  refine Exists.intro none ?_
  refine Exists.intro none ?_
  refine Exists.intro (CK.plain _ _) (And.intro (Contract.wk (c_math_bits_Mul64 p0 p1) (And.intro rfl (And.intro rfl trivial))) (And.intro rfl ?_))
  refine Exists.intro none ?_
  first | subst h | rw [← h]
  exact (And.intro rfl (And.intro rfl trivial))
theorem c_ref02_Product (p0 : Int) (p1 : Int) : Contract Try.prog 95 [.int .u64 p0, .int .u64 p1] [] (.agg [.int .u64 (ref02_Product p0 p1).Hi, .int .u64 (ref02_Product p0 p1).Lo]) [] := c_ref02_Product' p0 p1 (ref02_Product p0 p1) rfl

theorem c_ref02_Of' (p0 : Int) (r : api_Wide) (h : ref02_Of p0 = r) : Contract Try.prog 96 [.int .u64 p0] [] (.agg [.int .u64 r.Hi, .int .u64 r.Lo]) [] := by
  refine contract_of_vcs tab_ok orders_ok Try.func96 Try.call96 (by kernel_rfl) 0 rfl rfl _ rfl ?_
  delta ref02_Of at h
  refine Exists.intro none ?_
  refine Exists.intro none ?_
  first | subst h | rw [← h]
  exact (And.intro rfl (And.intro rfl trivial))
theorem c_ref02_Of (p0 : Int) : Contract Try.prog 96 [.int .u64 p0] [] (.agg [.int .u64 (ref02_Of p0).Hi, .int .u64 (ref02_Of p0).Lo]) [] := c_ref02_Of' p0 (ref02_Of p0) rfl

theorem c_ref02_bit (p0 : api_Wide) (p1 : Int) (r : Int) (h : ref02_bit p0 p1 = some r) : Contract Try.prog 121 [.agg [.int .u64 p0.Hi, .int .u64 p0.Lo], .int .i64 p1] [] (.int .u64 r) [] := by
  refine contract_of_vcs tab_ok orders_ok Try.func121 Try.call121 (by kernel_rfl) 0 rfl rfl _ rfl ?_
  delta ref02_bit at h
  refine Exists.intro none ?_
  refine Exists.intro none ?_
  refine And.intro (fun g1 => ?_) (fun g1 => ?_)
  · skip
    replace h := cT g1 h
    refine Exists.intro none ?_
    obtain ⟨k2_5, h⟩ := ckS h
    refine And.intro (of_decide_eq_true k2_5) ?_
    replace h := Option.some.inj h
    first | subst h | rw [← h]
    exact (And.intro rfl trivial)
  · skip
    replace h := cF g1 h
    refine Exists.intro none ?_
    obtain ⟨k3_4, h⟩ := ckS h
    refine And.intro (of_decide_eq_true k3_4) ?_
    replace h := Option.some.inj h
    first | subst h | rw [← h]
    exact (And.intro rfl trivial)

theorem c_ref02_double' (p0 : api_Wide) (p1 : Int) (r : (api_Wide × Int)) (h : ref02_double p0 p1 = r) : Contract Try.prog 120 [.agg [.int .u64 p0.Hi, .int .u64 p0.Lo], .int .u64 p1] [] (.tup [.agg [.int .u64 r.1.Hi, .int .u64 r.1.Lo], .int .u64 r.2]) [] := by
  refine contract_of_vcs tab_ok orders_ok Try.func120 Try.call120 (by kernel_rfl) 0 rfl rfl _ rfl ?_
  delta ref02_double at h
  refine Exists.intro none ?_
  refine Exists.intro none ?_
  refine And.intro (by decide) ?_
  refine And.intro (by decide) ?_
  refine And.intro (by decide) ?_
  refine And.intro (by decide) ?_
  first | subst h | rw [← h]
  exact (And.intro rfl (And.intro rfl (And.intro rfl trivial)))
theorem c_ref02_double (p0 : api_Wide) (p1 : Int) : Contract Try.prog 120 [.agg [.int .u64 p0.Hi, .int .u64 p0.Lo], .int .u64 p1] [] (.tup [.agg [.int .u64 (ref02_double p0 p1).1.Hi, .int .u64 (ref02_double p0 p1).1.Lo], .int .u64 (ref02_double p0 p1).2]) [] := c_ref02_double' p0 p1 (ref02_double p0 p1) rfl

theorem c_ref02_Compare' (p0 : api_Wide) (p1 : api_Wide) (r : Int) (h : ref02_Compare p0 p1 = r) : Contract Try.prog 122 [.agg [.int .u64 p0.Hi, .int .u64 p0.Lo], .agg [.int .u64 p1.Hi, .int .u64 p1.Lo]] [] (.int .i64 r) [] := by
  refine contract_of_vcs tab_ok orders_ok Try.func122 Try.call122 (by kernel_rfl) 0 rfl rfl _ rfl ?_
  delta ref02_Compare at h
  refine Exists.intro none ?_
  refine Exists.intro none ?_
  refine Exists.intro (some (⟨Unit, fun _ => [(.tmp 2, .av (.ptr 0 0)), (.tmp 3, .av (.ptr 1 0)), (.tmp 5, .av (.sb ((decide (p0.Hi < p1.Hi)) || ((p0.Hi == p1.Hi) && (decide (p0.Lo < p1.Lo)))))), (.box 0, .box [.int .u64 p0.Hi, .int .u64 p0.Lo]), (.box 1, .box [.int .u64 p1.Hi, .int .u64 p1.Lo])], fun _ => True, fun _ => 0⟩, 1000000)) (And.intro ?_ (fun _ _ => ?_))
  · skip
    refine And.intro (fun g1 => ?_) (fun g1 => ?_)
    · skip
      refine And.intro (fun g2 => ?_) (fun g2 => ?_)
      · skip
        exact Exists.intro [] (Exists.intro [] (Exists.intro () (And.intro trivial (And.intro rfl (And.intro (Eq.symm (oR g1 (aR g2 rfl))) (And.intro rfl (And.intro rfl (And.intro rfl (And.intro rfl trivial)))))))))
      · skip
        exact Exists.intro [] (Exists.intro [] (Exists.intro () (And.intro trivial (And.intro rfl (And.intro (Eq.symm (oR g1 (aL g2))) (And.intro rfl (And.intro rfl (And.intro rfl (And.intro rfl trivial)))))))))
    · skip
      exact Exists.intro [] (Exists.intro [] (Exists.intro () (And.intro trivial (And.intro rfl (And.intro (Eq.symm (oL g1)) (And.intro rfl (And.intro rfl (And.intro rfl (And.intro rfl trivial)))))))))
  · skip
    refine And.intro (fun g3 => ?_) (fun g3 => ?_)
    · skip
      replace h := cT g3 h
      refine Exists.intro none ?_
      first | subst h | rw [← h]
      exact (And.intro rfl trivial)
    · skip
      replace h := cF g3 h
      refine Exists.intro none ?_
      refine And.intro (fun g4 => ?_) (fun g4 => ?_)
      · skip
        replace h := cT g4 h
        refine Exists.intro none ?_
        first | subst h | rw [← h]
        exact (And.intro rfl trivial)
      · skip
        replace h := cF g4 h
        refine Exists.intro none ?_
        first | subst h | rw [← h]
        exact (And.intro rfl trivial)
theorem c_ref02_Compare (p0 : api_Wide) (p1 : api_Wide) : Contract Try.prog 122 [.agg [.int .u64 p0.Hi, .int .u64 p0.Lo], .agg [.int .u64 p1.Hi, .int .u64 p1.Lo]] [] (.int .i64 (ref02_Compare p0 p1)) [] := c_ref02_Compare' p0 p1 (ref02_Compare p0 p1) rfl

theorem c_ref02_Div (p0 : api_Wide) (p1 : api_Wide) (r : (api_Wide × api_Wide × Bool)) (h : ref02_Div p0 p1 = some r) : Contract Try.prog 94 [.agg [.int .u64 p0.Hi, .int .u64 p0.Lo], .agg [.int .u64 p1.Hi, .int .u64 p1.Lo]] [] (.tup [.agg [.int .u64 r.1.Hi, .int .u64 r.1.Lo], .agg [.int .u64 r.2.1.Hi, .int .u64 r.2.1.Lo], .sb r.2.2]) [] := by
  refine contract_of_vcs tab_ok orders_ok Try.func94 Try.call94 (by kernel_rfl) 0 rfl rfl _ rfl ?_
  delta ref02_Div at h
  refine Exists.intro none ?_
  refine Exists.intro none ?_
  refine And.intro (fun g1 => ?_) (fun g1 => ?_)
  · skip
    replace h := cT g1 h
    refine Exists.intro none ?_
    replace h := Option.some.inj h
    first | subst h | rw [← h]
    exact (And.intro rfl (And.intro rfl (And.intro rfl (And.intro rfl (And.intro rfl trivial)))))
  · skip
    replace h := cF g1 h
    refine Exists.intro none ?_
    refine Exists.intro none ?_
    replace h : ref02_Div_l3 p0 p1 (127:Int) (0:Int) (0:Int) (0:Int) (0:Int) = some r := h
    delta ref02_Div_l3 at h
    obtain ⟨n1, h⟩ := loopS h
    refine Exists.intro ⟨(Int × Int × Int × Int × Int) × Nat, fun q => [(.tmp 2, .av (.ptr 0 0)), (.tmp 3, .av (.ptr 1 0)), (.tmp 4, .av (.ptr 2 0)), (.tmp 5, .av (.ptr 3 0)), (.tmp 7, .av (.ptr 512 0)), (.tmp 8, .av (.ptr 513 0)), (.tmp 9, .av (.int .i64 q.1.1)), (.box 0, .box [.int .u64 p0.Hi, .int .u64 p0.Lo]), (.box 1, .box [.int .u64 p1.Hi, .int .u64 p1.Lo]), (.box 2, .box [.int .u64 (0:Int), .int .u64 (0:Int)]), (.box 3, .box [.int .u64 (0:Int), .int .u64 (0:Int)]), (.box 512, .box [.int .u64 q.1.2.1, .int .u64 q.1.2.2.1]), (.box 513, .box [.int .u64 q.1.2.2.2.1, .int .u64 q.1.2.2.2.2])], fun q => loopN (fun (s : (Int × Int × Int × Int × Int)) => ref02_Div_l3s p0 p1 s.1 s.2.1 s.2.2.1 s.2.2.2.1 s.2.2.2.2) q.2 q.1 = some r, fun q => q.2⟩ (And.intro (Exists.intro [] (Exists.intro [] (Exists.intro (((127:Int), (0:Int), (0:Int), (0:Int), (0:Int)), n1) (And.intro h (And.intro rfl (And.intro rfl (And.intro rfl (And.intro rfl (And.intro rfl (And.intro rfl (And.intro rfl (And.intro rfl (And.intro rfl (And.intro rfl (And.intro rfl (And.intro rfl (And.intro rfl (And.intro rfl trivial)))))))))))))))))) ?_)
    clear h
    refine fun q h => ?_
    obtain ⟨⟨v3_9, v3_b3x0_0, v3_b3x0_1, v3_b3x1_0, v3_b3x1_1⟩, n1⟩ := q
    obtain ⟨m1, x1, hm1, h, hl1, hr1⟩ := loopN_step h
    replace hm1 : n1 = m1 + 1 := hm1
    subst hm1
    replace h : ref02_Div_l3s p0 p1 v3_9 v3_b3x0_0 v3_b3x0_1 v3_b3x1_0 v3_b3x1_1 = some x1 := h
    delta ref02_Div_l3s at h
    refine Exists.intro none ?_
    refine And.intro (fun g2 => ?_) (fun g2 => ?_)
    · skip
      replace h := cT g2 h
      refine Exists.intro none ?_
      refine Exists.intro none ?_
      refine Exists.intro none ?_
      obtain ⟨y8_3, e8_3, h⟩ := bS h
      refine Exists.intro (CK.plain _ _) (And.intro (Contract.wk (c_ref02_bit p0 v3_9 y8_3 e8_3) (And.intro rfl (And.intro rfl (And.intro rfl trivial)))) (And.intro rfl ?_))
      refine Exists.intro (CK.plain _ _) (And.intro (Contract.wk (c_ref02_double (api_Wide.mk v3_b3x1_0 v3_b3x1_1) y8_3) (And.intro rfl (And.intro rfl (And.intro rfl trivial)))) (And.intro rfl ?_))
      refine Exists.intro none ?_
      refine Exists.intro none ?_
      refine Exists.intro (some (⟨Unit, fun _ => [(.tmp 2, .av (.ptr 0 0)), (.tmp 3, .av (.ptr 1 0)), (.tmp 4, .av (.ptr 2 0)), (.tmp 5, .av (.ptr 3 0)), (.tmp 7, .av (.ptr 512 0)), (.tmp 8, .av (.ptr 513 0)), (.tmp 9, .av (.int .i64 v3_9)), (.tmp 11, .av (.int .u64 (0:Int))), (.tmp 40, .av (.sb (((ref02_double (api_Wide.mk v3_b3x1_0 v3_b3x1_1) y8_3).2 != (0:Int)) || (decide ((ref02_Compare (ref02_double (api_Wide.mk v3_b3x1_0 v3_b3x1_1) y8_3).1 p1) ≥ (0:Int)))))), (.box 0, .box [.int .u64 p0.Hi, .int .u64 p0.Lo]), (.box 1, .box [.int .u64 p1.Hi, .int .u64 p1.Lo]), (.box 2, .box [.int .u64 (0:Int), .int .u64 (0:Int)]), (.box 3, .box [.int .u64 (0:Int), .int .u64 (0:Int)]), (.box 512, .box [.int .u64 v3_b3x0_0, .int .u64 v3_b3x0_1]), (.box 513, .box [.int .u64 (ref02_double (api_Wide.mk v3_b3x1_0 v3_b3x1_1) y8_3).1.Hi, .int .u64 (ref02_double (api_Wide.mk v3_b3x1_0 v3_b3x1_1) y8_3).1.Lo])], fun _ => True, fun _ => 0⟩, 1000000)) (And.intro ?_ (fun _ _ => ?_))
      · skip
        refine And.intro (fun g3 => ?_) (fun g3 => ?_)
        · skip
          refine Exists.intro (CK.plain _ _) (And.intro (Contract.wk (c_ref02_Compare (ref02_double (api_Wide.mk v3_b3x1_0 v3_b3x1_1) y8_3).1 p1) (And.intro rfl (And.intro rfl (And.intro rfl (And.intro rfl trivial))))) (And.intro rfl ?_))
          exact Exists.intro [] (Exists.intro [] (Exists.intro () (And.intro trivial (And.intro rfl (And.intro rfl (And.intro rfl (And.intro (Eq.symm (oR g3 rfl)) (And.intro rfl (And.intro rfl (And.intro rfl (And.intro rfl (And.intro rfl (And.intro rfl (And.intro rfl (And.intro rfl (And.intro rfl (And.intro rfl (And.intro rfl (And.intro rfl trivial)))))))))))))))))))
        · skip
          exact Exists.intro [] (Exists.intro [] (Exists.intro () (And.intro trivial (And.intro rfl (And.intro rfl (And.intro rfl (And.intro (Eq.symm (oL g3)) (And.intro rfl (And.intro rfl (And.intro rfl (And.intro rfl (And.intro rfl (And.intro rfl (And.intro rfl (And.intro rfl (And.intro rfl (And.intro rfl (And.intro rfl (And.intro rfl trivial)))))))))))))))))))
      · skip
        refine Exists.intro (some (⟨Int × Int × Int, fun q => [(.tmp 2, .av (.ptr 0 0)), (.tmp 3, .av (.ptr 1 0)), (.tmp 4, .av (.ptr 2 0)), (.tmp 5, .av (.ptr 3 0)), (.tmp 7, .av (.ptr 512 0)), (.tmp 8, .av (.ptr 513 0)), (.tmp 9, .av (.int .i64 v3_9)), (.tmp 11, .av (.int .u64 q.1)), (.box 0, .box [.int .u64 p0.Hi, .int .u64 p0.Lo]), (.box 1, .box [.int .u64 p1.Hi, .int .u64 p1.Lo]), (.box 2, .box [.int .u64 (0:Int), .int .u64 (0:Int)]), (.box 3, .box [.int .u64 (0:Int), .int .u64 (0:Int)]), (.box 512, .box [.int .u64 v3_b3x0_0, .int .u64 v3_b3x0_1]), (.box 513, .box [.int .u64 q.2.1, .int .u64 q.2.2])], fun q => ref02_Div_j6 v3_9 v3_b3x0_0 v3_b3x0_1 q.1 q.2.1 q.2.2 = some x1, fun _ => 0⟩, 2000000)) (And.intro ?_ ?_)
        · skip
          refine And.intro (fun g4 => ?_) (fun g4 => ?_)
          · skip
            replace h := cT g4 h
            refine Exists.intro none ?_
            obtain ⟨y11_4, e11_4, h⟩ := bS h
            refine Exists.intro (CK.plain _ _) (And.intro (Contract.wk (c_math_bits_Sub64 (ref02_double (api_Wide.mk v3_b3x1_0 v3_b3x1_1) y8_3).1.Lo p1.Lo (0:Int) y11_4 e11_4) (And.intro rfl (And.intro rfl (And.intro rfl trivial)))) (And.intro rfl ?_))
            refine Exists.intro none ?_
            obtain ⟨y12_5, e12_5, h⟩ := bS h
            refine Exists.intro (CK.plain _ _) (And.intro (Contract.wk (c_math_bits_Sub64 (ref02_double (api_Wide.mk v3_b3x1_0 v3_b3x1_1) y8_3).1.Hi p1.Hi y11_4.2 y12_5 e12_5) (And.intro rfl (And.intro rfl (And.intro rfl trivial)))) (And.intro rfl ?_))
            refine Exists.intro none ?_
            exact Exists.intro [] (Exists.intro [] (Exists.intro ((1:Int), y12_5.1, y11_4.1) (And.intro h (And.intro rfl (And.intro rfl (And.intro rfl (And.intro rfl (And.intro rfl (And.intro rfl (And.intro rfl (And.intro rfl (And.intro rfl (And.intro rfl (And.intro rfl (And.intro rfl (And.intro rfl (And.intro rfl (And.intro rfl trivial))))))))))))))))))
          · skip
            replace h := cF g4 h
            exact Exists.intro [] (Exists.intro [] (Exists.intro ((0:Int), (ref02_double (api_Wide.mk v3_b3x1_0 v3_b3x1_1) y8_3).1.Hi, (ref02_double (api_Wide.mk v3_b3x1_0 v3_b3x1_1) y8_3).1.Lo) (And.intro h (And.intro rfl (And.intro rfl (And.intro rfl (And.intro rfl (And.intro rfl (And.intro rfl (And.intro rfl (And.intro rfl (And.intro rfl (And.intro rfl (And.intro rfl (And.intro rfl (And.intro rfl (And.intro rfl (And.intro rfl trivial))))))))))))))))))
        · skip
          clear h
          refine fun q h => ?_
          obtain ⟨j6_11, j6_b3x1_0, j6_b3x1_1⟩ := q
          replace h : ref02_Div_j6 v3_9 v3_b3x0_0 v3_b3x0_1 j6_11 j6_b3x1_0 j6_b3x1_1 = some x1 := h
          delta ref02_Div_j6 at h
          refine Exists.intro none ?_
          refine Exists.intro (CK.plain _ _) (And.intro (Contract.wk (c_ref02_double (api_Wide.mk v3_b3x0_0 v3_b3x0_1) j6_11) (And.intro rfl (And.intro rfl (And.intro rfl trivial)))) (And.intro rfl ?_))
          refine Exists.intro none ?_
          exact Exists.intro [] (Exists.intro [] (Exists.intro (((w64 (v3_9 - (1:Int))), (ref02_double (api_Wide.mk v3_b3x0_0 v3_b3x0_1) j6_11).1.Hi, (ref02_double (api_Wide.mk v3_b3x0_0 v3_b3x0_1) j6_11).1.Lo, j6_b3x1_0, j6_b3x1_1), m1) (And.intro (hl1 ((w64 (v3_9 - (1:Int))), (ref02_double (api_Wide.mk v3_b3x0_0 v3_b3x0_1) j6_11).1.Hi, (ref02_double (api_Wide.mk v3_b3x0_0 v3_b3x0_1) j6_11).1.Lo, j6_b3x1_0, j6_b3x1_1) (Option.some.inj h).symm) (And.intro (Nat.lt_succ_self m1) (And.intro rfl (And.intro rfl (And.intro rfl (And.intro rfl (And.intro rfl (And.intro rfl (And.intro rfl (And.intro rfl (And.intro rfl (And.intro rfl (And.intro rfl (And.intro rfl (And.intro rfl (And.intro rfl trivial))))))))))))))))))
    · skip
      replace h := cF g2 h
      replace h := popS h hr1
      refine Exists.intro none ?_
      replace h := Option.some.inj h
      first | subst h | rw [← h]
      exact (And.intro rfl (And.intro rfl (And.intro rfl (And.intro rfl (And.intro rfl trivial)))))

theorem c_ref08_Target (p0 : Int) (p1 : Int) (p2 : Int) (r : Int) (h : ref08_Target p0 p1 p2 = some r) : Contract Try.prog 64 [.int .i64 p0, .int .i64 p1, .int .i64 p2] [] (.int .i64 r) [] := by
  refine contract_of_vcs tab_ok orders_ok Try.func64 Try.call64 (by kernel_rfl) 0 rfl rfl _ rfl ?_
  delta ref08_Target at h
  refine Exists.intro none ?_
  refine Exists.intro none ?_
  obtain ⟨y1_8, e1_8, h⟩ := bS h
  refine Exists.intro (CK.plain _ _) (And.intro (Contract.wk (c_ref02_Product (wu64 p0) (wu64 p2)) (And.intro rfl (And.intro rfl trivial))) (And.intro rfl ?_))
  refine Exists.intro (CK.plain _ _) (And.intro (Contract.wk (c_ref02_Of (wu64 p1)) (And.intro rfl trivial)) (And.intro rfl ?_))
  refine Exists.intro (CK.plain _ _) (And.intro (Contract.wk (c_ref02_Div (ref02_Product (wu64 p0) (wu64 p2)) (ref02_Of (wu64 p1)) y1_8 e1_8) (And.intro rfl (And.intro rfl (And.intro rfl (And.intro rfl trivial))))) (And.intro rfl ?_))
  refine Exists.intro none ?_
  refine Exists.intro none ?_
  refine Exists.intro none ?_
  refine And.intro (fun g1 => ?_) (fun g1 => ?_)
  · skip
    replace h := cT g1 h
    refine Exists.intro none ?_
    refine Exists.intro none ?_
    replace h := Option.some.inj h
    first | subst h | rw [← h]
    exact (And.intro rfl trivial)
  · skip
    replace h := cF g1 h
    refine Exists.intro none ?_
    replace h := Option.some.inj h
    first | subst h | rw [← h]
    exact (And.intro rfl trivial)

theorem c_ref21_At (p0 : api_Ranks) (p1 : Int) (r : (Int × Int)) (h : ref21_At p0 p1 = some r) : Contract Try.prog 38 [.agg [.int .i64 p0.N, .lst 3 false (List.map enc_api_Entry p0.Entries)], .int .i64 p1] [] (.tup [.int .i64 r.1, .int .i64 r.2]) [] := by
  refine contract_of_vcs tab_ok orders_ok Try.func38 Try.call38 (by kernel_rfl) 0 rfl rfl _ rfl ?_
  delta ref21_At at h
  refine Exists.intro none ?_
  refine Exists.intro none ?_
  obtain ⟨y1_1, e1_1, h⟩ := bS h
  refine Exists.intro (CK.plain _ _) (And.intro (Contract.wk (c_ref21_Validate p0 y1_1 e1_1) (And.intro rfl (And.intro ff (And.intro rfl trivial)))) (And.intro rfl ?_))
  refine Exists.intro none ?_
  refine And.intro (fun g1 => ?_) (fun g1 => ?_)
  · skip
    replace h := cT g1 h
    refine Exists.intro none ?_
    replace h := Option.some.inj h
    first | subst h | rw [← h]
    exact (And.intro rfl (And.intro rfl trivial))
  · skip
    replace h := cF g1 h
    refine Exists.intro none ?_
    refine Exists.intro none ?_
    refine And.intro (fun g2 => ?_) (fun g2 => ?_)
    · skip
      refine And.intro (fun g3 => ?_) (fun g3 => ?_)
      · skip
        replace h := cT (oR g2 g3) h
        refine Exists.intro none ?_
        replace h := Option.some.inj h
        first | subst h | rw [← h]
        exact (And.intro rfl (And.intro rfl trivial))
      · skip
        replace h := cF (oR g2 g3) h
        refine Exists.intro none ?_
        obtain ⟨y6_5, e6_5, h⟩ := bS h
        obtain ⟨x6_6, e6_6, h⟩ := bS h
        refine Exists.intro (CK.plain _ _) (And.intro (Contract.wk (c_ref20_For p0.Entries p1 y6_5 e6_5) (And.intro ff (And.intro rfl (And.intro rfl trivial)))) (And.intro rfl ?_))
        refine Exists.intro [.int .i64 x6_6.V, .int .i64 x6_6.Min, .int .i64 x6_6.Max] (And.intro (idx_map enc_api_Entry e6_6) ?_)
        replace h := Option.some.inj h
        first | subst h | rw [← h]
        exact (And.intro rfl (And.intro rfl trivial))
    · skip
      replace h := cT (oL g2) h
      refine Exists.intro none ?_
      replace h := Option.some.inj h
      first | subst h | rw [← h]
      exact (And.intro rfl (And.intro rfl trivial))

theorem c_rank_Quantile (p0 : api_Ranks) (p1 : Int) (p2 : Int) (r : (Int × Int)) (h : rank_Quantile p0 p1 p2 = some r) : Contract Try.prog 39 [.agg [.int .i64 p0.N, .lst 3 false (List.map enc_api_Entry p0.Entries)], .int .i64 p1, .int .i64 p2] [] (.tup [.int .i64 r.1, .int .i64 r.2]) [] := by
  refine contract_of_vcs tab_ok orders_ok Try.func39 Try.call39 (by kernel_rfl) 0 rfl rfl _ rfl ?_
  delta rank_Quantile at h
  refine Exists.intro none ?_
  refine Exists.intro none ?_
  obtain ⟨y1_1, e1_1, h⟩ := bS h
  refine Exists.intro (CK.plain _ _) (And.intro (Contract.wk (c_rank_Validate p0 y1_1 e1_1) (And.intro rfl (And.intro ff (And.intro rfl trivial)))) (And.intro rfl ?_))
  refine Exists.intro none ?_
  refine And.intro (fun g1 => ?_) (fun g1 => ?_)
  · skip
    replace h := cT g1 h
    refine Exists.intro none ?_
    replace h := Option.some.inj h
    first | subst h | rw [← h]
    exact (And.intro rfl (And.intro rfl trivial))
  · skip
    replace h := cF g1 h
    refine Exists.intro none ?_
    refine Exists.intro none ?_
    refine And.intro (fun g2 => ?_) (fun g2 => ?_)
    · skip
      refine And.intro (fun g3 => ?_) (fun g3 => ?_)
      · skip
        refine And.intro (fun g4 => ?_) (fun g4 => ?_)
        · skip
          replace h := cT (oR (oR g2 g3) g4) h
          refine Exists.intro none ?_
          replace h := Option.some.inj h
          first | subst h | rw [← h]
          exact (And.intro rfl (And.intro rfl trivial))
        · skip
          replace h := cF (oR (oR g2 g3) g4) h
          refine Exists.intro none ?_
          refine And.intro (fun g5 => ?_) (fun g5 => ?_)
          · skip
            replace h := cT g5 h
            refine Exists.intro none ?_
            replace h := Option.some.inj h
            first | subst h | rw [← h]
            exact (And.intro rfl (And.intro rfl trivial))
          · skip
            replace h := cF g5 h
            refine Exists.intro none ?_
            obtain ⟨y8_9, e8_9, h⟩ := bS h
            refine Exists.intro (CK.plain _ _) (And.intro (Contract.wk (c_wide_Product (wu64 p1) (wu64 p0.N)) (And.intro rfl (And.intro rfl trivial))) (And.intro rfl ?_))
            refine Exists.intro (CK.plain _ _) (And.intro (Contract.wk (c_wide_Of (wu64 p2)) (And.intro rfl trivial)) (And.intro rfl ?_))
            refine Exists.intro (CK.plain _ _) (And.intro (Contract.wk (c_wide_Div (wide_Product (wu64 p1) (wu64 p0.N)) (wide_Of (wu64 p2)) y8_9 e8_9) (And.intro rfl (And.intro rfl (And.intro rfl (And.intro rfl trivial))))) (And.intro rfl ?_))
            refine Exists.intro none ?_
            refine Exists.intro (some (⟨Int, fun j4_b8x14_1 => [(.tmp 3, .av (.ptr 0 0)), (.tmp 9, .av (.ptr 1294 0)), (.box 0, .box [.int .i64 p0.N, .lst 3 false (List.map enc_api_Entry p0.Entries)]), (.box 1294, .box [.int .u64 y8_9.1.Hi, .int .u64 j4_b8x14_1])], fun j4_b8x14_1 => rank_Quantile_j4 p0 j4_b8x14_1 = some r, fun _ => 0⟩, 1000000)) (And.intro ?_ ?_)
            · skip
              refine And.intro (fun g6 => ?_) (fun g6 => ?_)
              · skip
                replace h := cT g6 h
                refine Exists.intro none ?_
                exact Exists.intro [] (Exists.intro [] (Exists.intro (wu64 (y8_9.1.Lo + (1:Int))) (And.intro h (And.intro rfl (And.intro rfl (And.intro ff (And.intro rfl (And.intro rfl (And.intro rfl trivial)))))))))
              · skip
                replace h := cF g6 h
                exact Exists.intro [] (Exists.intro [] (Exists.intro y8_9.1.Lo (And.intro h (And.intro rfl (And.intro rfl (And.intro ff (And.intro rfl (And.intro rfl (And.intro rfl trivial)))))))))
            · skip
              clear h
              refine fun j4_b8x14_1 h => ?_
              replace h : rank_Quantile_j4 p0 j4_b8x14_1 = some r := h
              delta rank_Quantile_j4 at h
              refine Exists.intro none ?_
              obtain ⟨y11_8, e11_8, h⟩ := bS h
              obtain ⟨x11_9, e11_9, h⟩ := bS h
              refine Exists.intro (CK.plain _ _) (And.intro (Contract.wk (c_rank_place p0.Entries (imax (1:Int) (w64 j4_b8x14_1)) (0:Int) y11_8 e11_8) (And.intro ff (And.intro rfl (And.intro rfl (And.intro rfl trivial))))) (And.intro rfl ?_))
              refine Exists.intro [.int .i64 x11_9.V, .int .i64 x11_9.Min, .int .i64 x11_9.Max] (And.intro (idx_map enc_api_Entry e11_9) ?_)
              replace h := Option.some.inj h
              first | subst h | rw [← h]
              exact (And.intro rfl (And.intro rfl trivial))
      · skip
        replace h := cT (oL (oR g2 g3)) h
        refine Exists.intro none ?_
        replace h := Option.some.inj h
        first | subst h | rw [← h]
        exact (And.intro rfl (And.intro rfl trivial))
    · skip
      replace h := cT (oL (oL g2)) h
      refine Exists.intro none ?_
      replace h := Option.some.inj h
      first | subst h | rw [← h]
      exact (And.intro rfl (And.intro rfl trivial))

theorem c_ref21_Quantile (p0 : api_Ranks) (p1 : Int) (p2 : Int) (r : (Int × Int)) (h : ref21_Quantile p0 p1 p2 = some r) : Contract Try.prog 40 [.agg [.int .i64 p0.N, .lst 3 false (List.map enc_api_Entry p0.Entries)], .int .i64 p1, .int .i64 p2] [] (.tup [.int .i64 r.1, .int .i64 r.2]) [] := by
  refine contract_of_vcs tab_ok orders_ok Try.func40 Try.call40 (by kernel_rfl) 0 rfl rfl _ rfl ?_
  delta ref21_Quantile at h
  refine Exists.intro none ?_
  refine Exists.intro none ?_
  obtain ⟨y1_1, e1_1, h⟩ := bS h
  refine Exists.intro (CK.plain _ _) (And.intro (Contract.wk (c_ref21_Validate p0 y1_1 e1_1) (And.intro rfl (And.intro ff (And.intro rfl trivial)))) (And.intro rfl ?_))
  refine Exists.intro none ?_
  refine And.intro (fun g1 => ?_) (fun g1 => ?_)
  · skip
    replace h := cT g1 h
    refine Exists.intro none ?_
    replace h := Option.some.inj h
    first | subst h | rw [← h]
    exact (And.intro rfl (And.intro rfl trivial))
  · skip
    replace h := cF g1 h
    refine Exists.intro none ?_
    refine Exists.intro (CK.plain _ _) (And.intro (Contract.wk (c_ref08_Asks p1 p2) (And.intro rfl (And.intro rfl trivial))) (And.intro rfl ?_))
    refine And.intro (fun g2 => ?_) (fun g2 => ?_)
    · skip
      replace h := cT g2 h
      refine Exists.intro none ?_
      replace h := Option.some.inj h
      first | subst h | rw [← h]
      exact (And.intro rfl (And.intro rfl trivial))
    · skip
      replace h := cF g2 h
      refine Exists.intro none ?_
      refine And.intro (fun g3 => ?_) (fun g3 => ?_)
      · skip
        replace h := cT g3 h
        refine Exists.intro none ?_
        replace h := Option.some.inj h
        first | subst h | rw [← h]
        exact (And.intro rfl (And.intro rfl trivial))
      · skip
        replace h := cF g3 h
        refine Exists.intro none ?_
        obtain ⟨y8_5, e8_5, h⟩ := bS h
        obtain ⟨y8_6, e8_6, h⟩ := bS h
        refine Exists.intro (CK.plain _ _) (And.intro (Contract.wk (c_ref08_Target p1 p2 p0.N y8_5 e8_5) (And.intro rfl (And.intro rfl (And.intro rfl trivial)))) (And.intro rfl ?_))
        refine Exists.intro (CK.plain _ _) (And.intro (Contract.wk (c_ref21_At p0 y8_5 y8_6 e8_6) (And.intro rfl (And.intro ff (And.intro rfl (And.intro rfl trivial))))) (And.intro rfl ?_))
        replace h := Option.some.inj h
        first | subst h | rw [← h]
        exact (And.intro rfl (And.intro rfl trivial))

theorem c_ref20_Between (p0 : (List api_Entry)) (p1 : Int) (p2 : Int) (r : (Int × Int)) (h : ref20_Between p0 p1 p2 = some r) : Contract Try.prog 65 [.lst 3 false (List.map enc_api_Entry p0), .int .i64 p1, .int .i64 p2] [] (.tup [.int .i64 r.1, .int .i64 r.2]) [] := by
  refine contract_of_vcs tab_ok orders_ok Try.func65 Try.call65 (by kernel_rfl) 0 rfl rfl _ rfl ?_
  delta ref20_Between at h
  refine Exists.intro none ?_
  refine Exists.intro none ?_
  refine Exists.intro none ?_
  refine Exists.intro [.int .i64 (p0.length : Int)] (And.intro (lenS enc_api_Entry p0) ?_)
  replace h : ref20_Between_l2 p0 p1 p2 (0:Int) (0:Int) = some r := h
  delta ref20_Between_l2 at h
  obtain ⟨n1, h⟩ := loopS h
  refine Exists.intro ⟨(Int × Int) × Nat, fun q => [(.tmp 0, .av (.lst 3 false (List.map enc_api_Entry p0))), (.tmp 2, .av (.int .i64 p2)), (.tmp 8, .av (.int .i64 q.1.1)), (.tmp 9, .av (.int .i64 p1)), (.tmp 14, .av (.lst 3 false (List.map enc_api_Entry p0))), (.tmp 15, .av (.int .i64 (p0.length : Int))), (.tmp 16, .av (.int .i64 q.1.2))], fun q => loopN (fun (s : (Int × Int)) => ref20_Between_l2s p0 p1 p2 s.1 s.2) q.2 q.1 = some r, fun q => q.2⟩ (And.intro (Exists.intro [] (Exists.intro [] (Exists.intro (((0:Int), (0:Int)), n1) (And.intro h (And.intro rfl (And.intro ff (And.intro rfl (And.intro rfl (And.intro rfl (And.intro rfl (And.intro ff (And.intro rfl (And.intro rfl (And.intro rfl trivial)))))))))))))) ?_)
  clear h
  refine fun q h => ?_
  obtain ⟨⟨v2_8, v2_16⟩, n1⟩ := q
  obtain ⟨m1, x1, hm1, h, hl1, hr1⟩ := loopN_step h
  replace hm1 : n1 = m1 + 1 := hm1
  subst hm1
  replace h : ref20_Between_l2s p0 p1 p2 v2_8 v2_16 = some x1 := h
  delta ref20_Between_l2s at h
  refine Exists.intro none ?_
  refine And.intro (fun g1 => ?_) (fun g1 => ?_)
  · skip
    replace h := cT g1 h
    refine Exists.intro none ?_
    refine Exists.intro none ?_
    obtain ⟨x4_0, e4_0, h⟩ := bS h
    refine Exists.intro [.int .i64 x4_0.V, .int .i64 x4_0.Min, .int .i64 x4_0.Max] (And.intro (idx_map enc_api_Entry e4_0) ?_)
    refine Exists.intro none ?_
    refine Exists.intro none ?_
    refine And.intro (fun g2 => ?_) (fun g2 => ?_)
    · skip
      replace h := cT g2 h
      refine Exists.intro none ?_
      refine Exists.intro none ?_
      exact Exists.intro [] (Exists.intro [] (Exists.intro ((x4_0.Min, (w64 (v2_16 + (1:Int)))), m1) (And.intro (hl1 (x4_0.Min, (w64 (v2_16 + (1:Int)))) (Option.some.inj h).symm) (And.intro (Nat.lt_succ_self m1) (And.intro rfl (And.intro ff (And.intro rfl (And.intro rfl (And.intro rfl (And.intro rfl (And.intro ff (And.intro rfl (And.intro rfl (And.intro rfl trivial))))))))))))))
    · skip
      replace h := cF g2 h
      refine Exists.intro none ?_
      exact Exists.intro [] (Exists.intro [] (Exists.intro ((v2_8, (w64 (v2_16 + (1:Int)))), m1) (And.intro (hl1 (v2_8, (w64 (v2_16 + (1:Int)))) (Option.some.inj h).symm) (And.intro (Nat.lt_succ_self m1) (And.intro rfl (And.intro ff (And.intro rfl (And.intro rfl (And.intro rfl (And.intro rfl (And.intro ff (And.intro rfl (And.intro rfl (And.intro rfl trivial))))))))))))))
  · skip
    replace h := cF g1 h
    replace h := popS h hr1
    refine Exists.intro none ?_
    refine Exists.intro [.int .i64 (p0.length : Int)] (And.intro (lenS enc_api_Entry p0) ?_)
    replace h : ref20_Between_l7 p0 p2 v2_8 p1 (w64 ((p0.length : Int) - (1:Int))) = some r := h
    delta ref20_Between_l7 at h
    obtain ⟨n1, h⟩ := loopS h
    refine Exists.intro ⟨(Int × Int) × Nat, fun q => [(.tmp 0, .av (.lst 3 false (List.map enc_api_Entry p0))), (.tmp 2, .av (.int .i64 p2)), (.tmp 8, .av (.int .i64 v2_8)), (.tmp 9, .av (.int .i64 q.1.1)), (.tmp 12, .av (.int .i64 q.1.2))], fun q => loopN (fun (s : (Int × Int)) => ref20_Between_l7s p0 p2 v2_8 s.1 s.2) q.2 q.1 = some r, fun q => q.2⟩ (And.intro (Exists.intro [] (Exists.intro [] (Exists.intro ((p1, (w64 ((p0.length : Int) - (1:Int)))), n1) (And.intro h (And.intro rfl (And.intro ff (And.intro rfl (And.intro rfl (And.intro rfl (And.intro rfl (And.intro rfl trivial))))))))))) ?_)
    clear h
    refine fun q h => ?_
    obtain ⟨⟨v7_9, v7_12⟩, n1⟩ := q
    obtain ⟨m1, x1, hm1, h, hl1, hr1⟩ := loopN_step h
    replace hm1 : n1 = m1 + 1 := hm1
    subst hm1
    replace h : ref20_Between_l7s p0 p2 v2_8 v7_9 v7_12 = some x1 := h
    delta ref20_Between_l7s at h
    refine Exists.intro none ?_
    refine And.intro (fun g3 => ?_) (fun g3 => ?_)
    · skip
      replace h := cT g3 h
      refine Exists.intro none ?_
      refine Exists.intro none ?_
      obtain ⟨x11_2, e11_2, h⟩ := bS h
      refine Exists.intro [.int .i64 x11_2.V, .int .i64 x11_2.Min, .int .i64 x11_2.Max] (And.intro (idx_map enc_api_Entry e11_2) ?_)
      refine Exists.intro none ?_
      refine And.intro (fun g4 => ?_) (fun g4 => ?_)
      · skip
        replace h := cT g4 h
        refine Exists.intro none ?_
        obtain ⟨x12_2, e12_2, h⟩ := bS h
        refine Exists.intro [.int .i64 x12_2.V, .int .i64 x12_2.Min, .int .i64 x12_2.Max] (And.intro (idx_map enc_api_Entry e12_2) ?_)
        refine Exists.intro none ?_
        exact Exists.intro [] (Exists.intro [] (Exists.intro (((w64 (x12_2.Max - (1:Int))), (w64 (v7_12 - (1:Int)))), m1) (And.intro (hl1 ((w64 (x12_2.Max - (1:Int))), (w64 (v7_12 - (1:Int)))) (Option.some.inj h).symm) (And.intro (Nat.lt_succ_self m1) (And.intro rfl (And.intro ff (And.intro rfl (And.intro rfl (And.intro rfl (And.intro rfl (And.intro rfl trivial)))))))))))
      · skip
        replace h := cF g4 h
        refine Exists.intro none ?_
        exact Exists.intro [] (Exists.intro [] (Exists.intro ((v7_9, (w64 (v7_12 - (1:Int)))), m1) (And.intro (hl1 (v7_9, (w64 (v7_12 - (1:Int)))) (Option.some.inj h).symm) (And.intro (Nat.lt_succ_self m1) (And.intro rfl (And.intro ff (And.intro rfl (And.intro rfl (And.intro rfl (And.intro rfl (And.intro rfl trivial)))))))))))
    · skip
      replace h := cF g3 h
      replace h := popS h hr1
      refine Exists.intro none ?_
      replace h := Option.some.inj h
      first | subst h | rw [← h]
      exact (And.intro rfl (And.intro rfl trivial))

theorem c_ref03_Of' (p0 : Int) (r : api_Ratio) (h : ref03_Of p0 = r) : Contract Try.prog 80 [.int .i64 p0] [] (.agg [.int .i64 r.Num, .int .i64 r.Den]) [] := by
  refine contract_of_vcs tab_ok orders_ok Try.func80 Try.call80 (by kernel_rfl) 0 rfl rfl _ rfl ?_
  delta ref03_Of at h
  refine Exists.intro none ?_
  refine Exists.intro none ?_
  first | subst h | rw [← h]
  exact (And.intro rfl (And.intro rfl trivial))
theorem c_ref03_Of (p0 : Int) : Contract Try.prog 80 [.int .i64 p0] [] (.agg [.int .i64 (ref03_Of p0).Num, .int .i64 (ref03_Of p0).Den]) [] := c_ref03_Of' p0 (ref03_Of p0) rfl

theorem c_ref01_FloorDiv (p0 : Int) (p1 : Int) (r : (Int × Bool)) (h : ref01_FloorDiv p0 p1 = some r) : Contract Try.prog 123 [.int .i64 p0, .int .i64 p1] [] (.tup [.int .i64 r.1, .sb r.2]) [] := by
  refine contract_of_vcs tab_ok orders_ok Try.func123 Try.call123 (by kernel_rfl) 0 rfl rfl _ rfl ?_
  delta ref01_FloorDiv at h
  refine Exists.intro none ?_
  refine Exists.intro none ?_
  refine Exists.intro (some (⟨Unit, fun _ => [(.tmp 0, .av (.int .i64 p0)), (.tmp 1, .av (.int .i64 p1)), (.tmp 16, .av (.sb ((p1 == (0:Int)) || ((p0 == (-9223372036854775808:Int)) && (p1 == (-1:Int))))))], fun _ => True, fun _ => 0⟩, 1000000)) (And.intro ?_ (fun _ _ => ?_))
  · skip
    refine And.intro (fun g1 => ?_) (fun g1 => ?_)
    · skip
      refine And.intro (fun g2 => ?_) (fun g2 => ?_)
      · skip
        exact Exists.intro [] (Exists.intro [] (Exists.intro () (And.intro trivial (And.intro rfl (And.intro rfl (And.intro rfl (And.intro (Eq.symm (oR g1 (aR g2 rfl))) trivial)))))))
      · skip
        exact Exists.intro [] (Exists.intro [] (Exists.intro () (And.intro trivial (And.intro rfl (And.intro rfl (And.intro rfl (And.intro (Eq.symm (oR g1 (aL g2))) trivial)))))))
    · skip
      exact Exists.intro [] (Exists.intro [] (Exists.intro () (And.intro trivial (And.intro rfl (And.intro rfl (And.intro rfl (And.intro (Eq.symm (oL g1)) trivial)))))))
  · skip
    refine And.intro (fun g3 => ?_) (fun g3 => ?_)
    · skip
      replace h := cT g3 h
      refine Exists.intro none ?_
      replace h := Option.some.inj h
      first | subst h | rw [← h]
      exact (And.intro rfl (And.intro rfl trivial))
    · skip
      replace h := cF g3 h
      refine Exists.intro none ?_
      obtain ⟨k3_2, h⟩ := ckS h
      refine And.intro (of_decide_eq_true k3_2) ?_
      refine Exists.intro none ?_
      obtain ⟨k4_2, h⟩ := ckS h
      refine Exists.intro (some (⟨Unit, fun _ => [(.tmp 6, .av (.int .i64 (w64 (Int.tdiv p0 p1)))), (.tmp 30, .av (.sb (((Int.tmod p0 p1) != (0:Int)) && (!((decide (p0 < (0:Int))) == (decide (p1 < (0:Int))))))))], fun _ => True, fun _ => 0⟩, 2000000)) (And.intro ?_ (fun _ _ => ?_))
      · skip
        refine And.intro (of_decide_eq_true k4_2) ?_
        refine And.intro (fun g4 => ?_) (fun g4 => ?_)
        · skip
          exact Exists.intro [] (Exists.intro [] (Exists.intro () (And.intro trivial (And.intro rfl (And.intro rfl (And.intro (Eq.symm (aR g4 rfl)) trivial))))))
        · skip
          exact Exists.intro [] (Exists.intro [] (Exists.intro () (And.intro trivial (And.intro rfl (And.intro rfl (And.intro (Eq.symm (aL g4)) trivial))))))
      · skip
        refine Exists.intro none ?_
        refine And.intro (fun g5 => ?_) (fun g5 => ?_)
        · skip
          replace h := cT g5 h
          refine Exists.intro none ?_
          refine Exists.intro none ?_
          replace h := Option.some.inj h
          first | subst h | rw [← h]
          exact (And.intro rfl (And.intro rfl trivial))
        · skip
          replace h := cF g5 h
          refine Exists.intro none ?_
          replace h := Option.some.inj h
          first | subst h | rw [← h]
          exact (And.intro rfl (And.intro rfl trivial))

theorem c_ref04_Middle (p0 : Int) (p1 : Int) (r : Int) (h : ref04_Middle p0 p1 = some r) : Contract Try.prog 97 [.int .i64 p0, .int .i64 p1] [] (.int .i64 r) [] := by
  refine contract_of_vcs tab_ok orders_ok Try.func97 Try.call97 (by kernel_rfl) 0 rfl rfl _ rfl ?_
  delta ref04_Middle at h
  refine Exists.intro none ?_
  refine Exists.intro none ?_
  obtain ⟨y1_1, e1_1, h⟩ := bS h
  refine Exists.intro (CK.plain _ _) (And.intro (Contract.wk (c_ref01_FloorDiv p0 (2:Int) y1_1 e1_1) (And.intro rfl (And.intro rfl trivial))) (And.intro rfl ?_))
  refine Exists.intro none ?_
  obtain ⟨y2_1, e2_1, h⟩ := bS h
  refine Exists.intro (CK.plain _ _) (And.intro (Contract.wk (c_ref01_FloorDiv p1 (2:Int) y2_1 e2_1) (And.intro rfl (And.intro rfl trivial))) (And.intro rfl ?_))
  refine Exists.intro none ?_
  refine And.intro (by decide) ?_
  replace h := Option.some.inj h
  first | subst h | rw [← h]
  exact (And.intro rfl trivial)

theorem c_ref04_Whole (p0 : Int) (p1 : Int) (r : (api_Bounds × Bool)) (h : ref04_Whole p0 p1 = some r) : Contract Try.prog 66 [.int .i64 p0, .int .i64 p1] [] (.tup [.agg [.int .i64 r.1.Lo.Num, .int .i64 r.1.Lo.Den, .int .i64 r.1.Est.Num, .int .i64 r.1.Est.Den, .int .i64 r.1.Hi.Num, .int .i64 r.1.Hi.Den], .sb r.2]) [] := by
  refine contract_of_vcs tab_ok orders_ok Try.func66 Try.call66 (by kernel_rfl) 0 rfl rfl _ rfl ?_
  delta ref04_Whole at h
  refine Exists.intro none ?_
  refine Exists.intro none ?_
  refine And.intro (fun g1 => ?_) (fun g1 => ?_)
  · skip
    replace h := cT g1 h
    refine Exists.intro none ?_
    replace h := Option.some.inj h
    first | subst h | rw [← h]
    exact (And.intro rfl (And.intro rfl (And.intro rfl (And.intro rfl (And.intro rfl (And.intro rfl (And.intro rfl trivial)))))))
  · skip
    replace h := cF g1 h
    refine Exists.intro none ?_
    obtain ⟨y3_4, e3_4, h⟩ := bS h
    refine Exists.intro (CK.plain _ _) (And.intro (Contract.wk (c_ref03_Of p0) (And.intro rfl trivial)) (And.intro rfl ?_))
    refine Exists.intro (CK.plain _ _) (And.intro (Contract.wk (c_ref04_Middle p0 p1 y3_4 e3_4) (And.intro rfl (And.intro rfl trivial))) (And.intro rfl ?_))
    refine Exists.intro (CK.plain _ _) (And.intro (Contract.wk (c_ref03_Of y3_4) (And.intro rfl trivial)) (And.intro rfl ?_))
    refine Exists.intro (CK.plain _ _) (And.intro (Contract.wk (c_ref03_Of p1) (And.intro rfl trivial)) (And.intro rfl ?_))
    replace h := Option.some.inj h
    first | subst h | rw [← h]
    exact (And.intro rfl (And.intro rfl (And.intro rfl (And.intro rfl (And.intro rfl (And.intro rfl (And.intro rfl trivial)))))))

theorem c_ref21_Rank (p0 : api_Ranks) (p1 : Int) (r : (api_Bounds × Int)) (h : ref21_Rank p0 p1 = some r) : Contract Try.prog 41 [.agg [.int .i64 p0.N, .lst 3 false (List.map enc_api_Entry p0.Entries)], .int .i64 p1] [] (.tup [.agg [.int .i64 r.1.Lo.Num, .int .i64 r.1.Lo.Den, .int .i64 r.1.Est.Num, .int .i64 r.1.Est.Den, .int .i64 r.1.Hi.Num, .int .i64 r.1.Hi.Den], .int .i64 r.2]) [] := by
  refine contract_of_vcs tab_ok orders_ok Try.func41 Try.call41 (by kernel_rfl) 0 rfl rfl _ rfl ?_
  delta ref21_Rank at h
  refine Exists.intro none ?_
  refine Exists.intro none ?_
  obtain ⟨y1_1, e1_1, h⟩ := bS h
  refine Exists.intro (CK.plain _ _) (And.intro (Contract.wk (c_ref21_Validate p0 y1_1 e1_1) (And.intro rfl (And.intro ff (And.intro rfl trivial)))) (And.intro rfl ?_))
  refine Exists.intro none ?_
  refine And.intro (fun g1 => ?_) (fun g1 => ?_)
  · skip
    replace h := cT g1 h
    refine Exists.intro none ?_
    replace h := Option.some.inj h
    first | subst h | rw [← h]
    exact (And.intro rfl (And.intro rfl (And.intro rfl (And.intro rfl (And.intro rfl (And.intro rfl (And.intro rfl trivial)))))))
  · skip
    replace h := cF g1 h
    refine Exists.intro none ?_
    obtain ⟨y4_5, e4_5, h⟩ := bS h
    refine Exists.intro (CK.plain _ _) (And.intro (Contract.wk (c_ref20_Between p0.Entries p0.N p1 y4_5 e4_5) (And.intro ff (And.intro rfl (And.intro rfl (And.intro rfl trivial))))) (And.intro rfl ?_))
    refine Exists.intro none ?_
    obtain ⟨y5_2, e5_2, h⟩ := bS h
    refine Exists.intro (CK.plain _ _) (And.intro (Contract.wk (c_ref04_Whole y4_5.1 y4_5.2 y5_2 e5_2) (And.intro rfl (And.intro rfl trivial))) (And.intro rfl ?_))
    refine Exists.intro none ?_
    replace h := Option.some.inj h
    first | subst h | rw [← h]
    exact (And.intro rfl (And.intro rfl (And.intro rfl (And.intro rfl (And.intro rfl (And.intro rfl (And.intro rfl trivial)))))))

theorem c_law21_RankAsks (p0 : api_Ranks) (p1 : Int) (p2 : Int) (p3 : Int) (p4 : Int) (r : Bool) (h : law21_RankAsks p0 p1 p2 p3 p4 = some r) : Contract Try.prog 10 [.agg [.int .i64 p0.N, .lst 3 false (List.map enc_api_Entry p0.Entries)], .int .i64 p1, .int .i64 p2, .int .i64 p3, .int .i64 p4] [] (.sb r) [] := by
  refine contract_of_vcs tab_ok orders_ok Try.func10 Try.call10 (by kernel_rfl) 0 rfl rfl _ rfl ?_
  delta law21_RankAsks at h
  refine Exists.intro none ?_
  refine Exists.intro none ?_
  refine Exists.intro (CK.plain _ _) (And.intro (Contract.wk (c_law21_few p0) (And.intro rfl (And.intro ff (And.intro rfl trivial)))) (And.intro rfl ?_))
  refine And.intro (fun g1 => ?_) (fun g1 => ?_)
  · skip
    replace h := cT g1 h
    refine Exists.intro none ?_
    obtain ⟨y2_0, e2_0, h⟩ := bS h
    refine Exists.intro (CK.plain _ _) (And.intro (Contract.wk (c_law21_awake y2_0 e2_0) trivial) (And.intro rfl ?_))
    replace h := Option.some.inj h
    first | subst h | rw [← h]
    exact (And.intro rfl trivial)
  · skip
    replace h := cF g1 h
    refine Exists.intro none ?_
    obtain ⟨y3_2, e3_2, h⟩ := bS h
    refine Exists.intro (CK.plain _ _) (And.intro (Contract.wk (c_rank_At p0 p1 y3_2 e3_2) (And.intro rfl (And.intro ff (And.intro rfl (And.intro rfl trivial))))) (And.intro rfl ?_))
    refine Exists.intro none ?_
    obtain ⟨y4_2, e4_2, h⟩ := bS h
    refine Exists.intro (CK.plain _ _) (And.intro (Contract.wk (c_ref21_At p0 p1 y4_2 e4_2) (And.intro rfl (And.intro ff (And.intro rfl (And.intro rfl trivial))))) (And.intro rfl ?_))
    refine Exists.intro none ?_
    obtain ⟨y5_3, e5_3, h⟩ := bS h
    refine Exists.intro (CK.plain _ _) (And.intro (Contract.wk (c_rank_Quantile p0 p2 p3 y5_3 e5_3) (And.intro rfl (And.intro ff (And.intro rfl (And.intro rfl (And.intro rfl trivial)))))) (And.intro rfl ?_))
    refine Exists.intro none ?_
    obtain ⟨y6_3, e6_3, h⟩ := bS h
    refine Exists.intro (CK.plain _ _) (And.intro (Contract.wk (c_ref21_Quantile p0 p2 p3 y6_3 e6_3) (And.intro rfl (And.intro ff (And.intro rfl (And.intro rfl (And.intro rfl trivial)))))) (And.intro rfl ?_))
    refine Exists.intro none ?_
    obtain ⟨y7_2, e7_2, h⟩ := bS h
    refine Exists.intro (CK.plain _ _) (And.intro (Contract.wk (c_rank_Rank p0 p4 y7_2 e7_2) (And.intro rfl (And.intro ff (And.intro rfl (And.intro rfl trivial))))) (And.intro rfl ?_))
    refine Exists.intro none ?_
    obtain ⟨y8_2, e8_2, h⟩ := bS h
    refine Exists.intro (CK.plain _ _) (And.intro (Contract.wk (c_ref21_Rank p0 p4 y8_2 e8_2) (And.intro rfl (And.intro ff (And.intro rfl (And.intro rfl trivial))))) (And.intro rfl ?_))
    refine Exists.intro none ?_
    obtain ⟨y9_29, e9_29, h⟩ := bS h
    refine Exists.intro none ?_
    refine And.intro (fun g2 => ?_) (fun g2 => ?_)
    · skip
      refine And.intro (fun g3 => ?_) (fun g3 => ?_)
      · skip
        refine And.intro (fun g4 => ?_) (fun g4 => ?_)
        · skip
          refine And.intro (fun g5 => ?_) (fun g5 => ?_)
          · skip
            refine And.intro (fun g6 => ?_) (fun g6 => ?_)
            · skip
              refine And.intro (fun g7 => ?_) (fun g7 => ?_)
              · skip
                refine Exists.intro (CK.plain _ _) (And.intro (Contract.wk (c_law21_awake y9_29 (gdT (aR (aR (aR (aR (aR g2 g3) g4) g5) g6) g7) e9_29)) trivial) (And.intro rfl ?_))
                replace h := Option.some.inj h
                first | subst h | rw [← h]
                exact (And.intro (Eq.symm (aR (aR (aR (aR (aR (aR g2 g3) g4) g5) g6) g7) rfl)) trivial)
              · skip
                replace h := Option.some.inj h
                first | subst h | rw [← h]
                exact (And.intro (Eq.symm (aL (aR (aR (aR (aR (aR g2 g3) g4) g5) g6) g7))) trivial)
            · skip
              replace h := Option.some.inj h
              first | subst h | rw [← h]
              exact (And.intro (Eq.symm (aL (aL (aR (aR (aR (aR g2 g3) g4) g5) g6)))) trivial)
          · skip
            replace h := Option.some.inj h
            first | subst h | rw [← h]
            exact (And.intro (Eq.symm (aL (aL (aL (aR (aR (aR g2 g3) g4) g5))))) trivial)
        · skip
          replace h := Option.some.inj h
          first | subst h | rw [← h]
          exact (And.intro (Eq.symm (aL (aL (aL (aL (aR (aR g2 g3) g4)))))) trivial)
      · skip
        replace h := Option.some.inj h
        first | subst h | rw [← h]
        exact (And.intro (Eq.symm (aL (aL (aL (aL (aL (aR g2 g3))))))) trivial)
    · skip
      replace h := Option.some.inj h
      first | subst h | rw [← h]
      exact (And.intro (Eq.symm (aL (aL (aL (aL (aL (aL g2))))))) trivial)

end Go.Proofs.Ytpclnmpmammlfaa
