/- The contracts: each function of the program does what its function on plain data says. Made by program. -/
import Derived.Test.YtpclnmpmammlfaaGreatTab
import Derived.Test.YtpclnmpmammlfaaGreatWin
import Derived.Test.YtpclnmpmammlfaaGreatWalk
import Derived.Test.YtpclnmpmammlfaaGreatSrt
import Derived.Test.YtpclnmpmammlfaaGreatCon0
set_option linter.unusedVariables false
set_option linter.unusedSimpArgs false
set_option linter.unnecessarySimpa false
set_option maxHeartbeats 4000000
namespace Go.Proofs.YtpclnmpmammlfaaGreat
open Go.Vc Go.Dec Go.Win

theorem c_ref09_Ask (p0 : api_Recent) (p1 : api_Query) (r : (api_Answer × Int)) (h : ref09_Ask p0 p1 = some r) : Contract Tryz.prog 7 [.agg [.int .i64 p0.W, .int .i64 p0.Cap, .int .i64 p0.Now, .lst 2 false (List.map enc_api_Item p0.Items)], .agg [.int .i64 p1.Op, .int .i64 p1.A, .int .i64 p1.B]] [] (.tup [.agg [.int .i64 r.1.Bounds.Lo.Num, .int .i64 r.1.Bounds.Lo.Den, .int .i64 r.1.Bounds.Est.Num, .int .i64 r.1.Bounds.Est.Den, .int .i64 r.1.Bounds.Hi.Num, .int .i64 r.1.Bounds.Hi.Den, .lst 1 false (List.map (eI .i64) r.1.Values), .int .u64 r.1.Fraction.Num.Hi, .int .u64 r.1.Fraction.Num.Lo, .int .u64 r.1.Fraction.Den.Hi, .int .u64 r.1.Fraction.Den.Lo], .int .i64 r.2]) [] := by
  refine contract_of_vcs tab_ok orders_ok Tryz.func7 Tryz.call7 (by kernel_rfl) 0 rfl rfl _ rfl ?_
  delta ref09_Ask at h
  refine Exists.intro none ?_
  refine Exists.intro none ?_
  obtain ⟨y1_1, e1_1, h⟩ := bS h
  refine Exists.intro (CK.plain _ _) (And.intro (Contract.wk (c_ref09_Validate p0 y1_1 e1_1) (And.intro rfl (And.intro rfl (And.intro rfl (And.intro ff (And.intro rfl trivial)))))) (And.intro rfl ?_))
  refine Exists.intro none ?_
  refine And.intro (fun g1 => ?_) (fun g1 => ?_)
  · skip
    replace h := cT g1 h
    refine Exists.intro none ?_
    replace h := Option.some.inj h
    first | subst h | rw [← h]
    exact (And.intro rfl (And.intro rfl (And.intro rfl (And.intro rfl (And.intro rfl (And.intro rfl (And.intro rfl (And.intro rfl (And.intro rfl (And.intro rfl (And.intro rfl (And.intro rfl trivial))))))))))))
  · skip
    replace h := cF g1 h
    refine Exists.intro none ?_
    obtain ⟨y4_2, e4_2, h⟩ := bS h
    refine Exists.intro (CK.plain _ _) (And.intro (Contract.wk (c_ref08_Extreme p0.Items false y4_2 e4_2) (And.intro ff (And.intro rfl (And.intro rfl trivial)))) (And.intro rfl ?_))
    refine Exists.intro none ?_
    obtain ⟨y5_2, e5_2, h⟩ := bS h
    refine Exists.intro (CK.plain _ _) (And.intro (Contract.wk (c_ref08_Extreme p0.Items true y5_2 e5_2) (And.intro ff (And.intro rfl (And.intro rfl trivial)))) (And.intro rfl ?_))
    refine Exists.intro none ?_
    obtain ⟨y6_2, e6_2, h⟩ := bS h
    refine Exists.intro (CK.plain _ _) (And.intro (Contract.wk (c_ref08_Sum p0.Items y6_2 e6_2) (And.intro ff (And.intro rfl trivial))) (And.intro rfl ?_))
    refine Exists.intro none ?_
    obtain ⟨y7_2, e7_2, h⟩ := bS h
    refine Exists.intro (CK.plain _ _) (And.intro (Contract.wk (c_ref08_Squares p0.Items y7_2 e7_2) (And.intro ff (And.intro rfl trivial))) (And.intro rfl ?_))
    refine Exists.intro none ?_
    refine Exists.intro none ?_
    refine And.intro (fun g2 => ?_) (fun g2 => ?_)
    · skip
      replace h := cT g2 h
      refine Exists.intro none ?_
      obtain ⟨y10_3, e10_3, h⟩ := bS h
      refine Exists.intro [.int .i64 (p0.Items.length : Int)] (And.intro (lenS enc_api_Item p0.Items) ?_)
      refine Exists.intro (CK.plain _ _) (And.intro (Contract.wk (c_ref08_Whole (p0.Items.length : Int) y10_3 e10_3) (And.intro rfl trivial)) (And.intro rfl ?_))
      replace h := Option.some.inj h
      first | subst h | rw [← h]
      exact (And.intro rfl (And.intro rfl (And.intro rfl (And.intro rfl (And.intro rfl (And.intro rfl (And.intro rfl (And.intro rfl (And.intro rfl (And.intro rfl (And.intro rfl (And.intro rfl trivial))))))))))))
    · skip
      replace h := cF g2 h
      refine Exists.intro none ?_
      refine And.intro (fun g3 => ?_) (fun g3 => ?_)
      · skip
        replace h := cT g3 h
        refine Exists.intro none ?_
        obtain ⟨y12_1, e12_1, h⟩ := bS h
        refine Exists.intro (CK.plain _ _) (And.intro (Contract.wk (c_ref08_Whole y6_2.1 y12_1 e12_1) (And.intro rfl trivial)) (And.intro rfl ?_))
        replace h := Option.some.inj h
        first | subst h | rw [← h]
        exact (And.intro rfl (And.intro rfl (And.intro rfl (And.intro rfl (And.intro rfl (And.intro rfl (And.intro rfl (And.intro rfl (And.intro rfl (And.intro rfl (And.intro rfl (And.intro rfl trivial))))))))))))
      · skip
        replace h := cF g3 h
        refine Exists.intro none ?_
        refine And.intro (fun g4 => ?_) (fun g4 => ?_)
        · skip
          replace h := cT g4 h
          refine Exists.intro none ?_
          obtain ⟨y14_1, e14_1, h⟩ := bS h
          refine Exists.intro (CK.plain _ _) (And.intro (Contract.wk (c_ref08_Whole y7_2.1 y14_1 e14_1) (And.intro rfl trivial)) (And.intro rfl ?_))
          replace h := Option.some.inj h
          first | subst h | rw [← h]
          exact (And.intro rfl (And.intro rfl (And.intro rfl (And.intro rfl (And.intro rfl (And.intro rfl (And.intro rfl (And.intro rfl (And.intro rfl (And.intro rfl (And.intro rfl (And.intro rfl trivial))))))))))))
        · skip
          replace h := cF g4 h
          refine Exists.intro none ?_
          refine And.intro (fun g5 => ?_) (fun g5 => ?_)
          · skip
            replace h := cT g5 h
            refine Exists.intro none ?_
            obtain ⟨y16_3, e16_3, h⟩ := bS h
            refine Exists.intro (CK.plain _ _) (And.intro (Contract.wk (c_ref08_Whole (w64 (y5_2.1 - y4_2.1)) y16_3 e16_3) (And.intro rfl trivial)) (And.intro rfl ?_))
            replace h := Option.some.inj h
            first | subst h | rw [← h]
            exact (And.intro rfl (And.intro rfl (And.intro rfl (And.intro rfl (And.intro rfl (And.intro rfl (And.intro rfl (And.intro rfl (And.intro rfl (And.intro rfl (And.intro rfl (And.intro rfl trivial))))))))))))
          · skip
            replace h := cF g5 h
            refine Exists.intro none ?_
            refine And.intro (fun g6 => ?_) (fun g6 => ?_)
            · skip
              replace h := cT g6 h
              refine Exists.intro none ?_
              obtain ⟨y18_5, e18_5, h⟩ := bS h
              obtain ⟨y18_6, e18_6, h⟩ := bS h
              refine Exists.intro [.int .i64 (p0.Items.length : Int)] (And.intro (lenS enc_api_Item p0.Items) ?_)
              refine Exists.intro (CK.plain _ _) (And.intro (Contract.wk (c_ref09_spread (p0.Items.length : Int) y6_2.1 y7_2.1 y18_5 e18_5) (And.intro rfl (And.intro rfl (And.intro rfl trivial)))) (And.intro rfl ?_))
              refine Exists.intro (CK.plain _ _) (And.intro (Contract.wk (c_ref04_Exact y18_5 y18_6 e18_6) (And.intro rfl (And.intro rfl trivial))) (And.intro rfl ?_))
              replace h := Option.some.inj h
              first | subst h | rw [← h]
              exact (And.intro rfl (And.intro rfl (And.intro rfl (And.intro rfl (And.intro rfl (And.intro rfl (And.intro rfl (And.intro rfl (And.intro rfl (And.intro rfl (And.intro rfl (And.intro rfl trivial))))))))))))
            · skip
              replace h := cF g6 h
              refine Exists.intro none ?_
              refine And.intro (fun g7 => ?_) (fun g7 => ?_)
              · skip
                replace h := cT g7 h
                refine Exists.intro none ?_
                refine Exists.intro [.int .i64 (p0.Items.length : Int)] (And.intro (lenS enc_api_Item p0.Items) ?_)
                refine And.intro (fun g8 => ?_) (fun g8 => ?_)
                · skip
                  replace h := cT g8 h
                  refine Exists.intro none ?_
                  replace h := Option.some.inj h
                  first | subst h | rw [← h]
                  exact (And.intro rfl (And.intro rfl (And.intro rfl (And.intro rfl (And.intro rfl (And.intro rfl (And.intro rfl (And.intro rfl (And.intro rfl (And.intro rfl (And.intro rfl (And.intro rfl trivial))))))))))))
                · skip
                  replace h := cF g8 h
                  refine Exists.intro none ?_
                  replace h := Option.some.inj h
                  first | subst h | rw [← h]
                  exact (And.intro rfl (And.intro rfl (And.intro rfl (And.intro rfl (And.intro rfl (And.intro rfl (And.intro ff (And.intro (by first | rfl | (simp only [encZ, List.map_append, List.map_cons, List.map_nil, List.map_take, List.map_drop, List.map_set, List.map_replicate]; done) | (simp only [encZ, List.map_append, List.map_cons, List.map_nil, List.map_take, List.map_drop, List.map_set, List.map_replicate]; rfl) | (simp only [encZ, List.map_append, List.map_cons, List.map_nil, List.map_take, List.map_drop, List.map_set, List.map_replicate, eL, enc_api_Recent, enc_api_Answer]; done) | (simp only [encZ, List.map_append, List.map_cons, List.map_nil, List.map_take, List.map_drop, List.map_set, List.map_replicate, eL, enc_api_Recent, enc_api_Answer]; rfl)) (And.intro rfl (And.intro rfl (And.intro rfl (And.intro rfl (And.intro rfl trivial)))))))))))))
              · skip
                replace h := cF g7 h
                refine Exists.intro none ?_
                refine And.intro (fun g9 => ?_) (fun g9 => ?_)
                · skip
                  replace h := cT g9 h
                  refine Exists.intro none ?_
                  obtain ⟨y24_4, e24_4, h⟩ := bS h
                  obtain ⟨y24_5, e24_5, h⟩ := bS h
                  refine Exists.intro (CK.plain _ _) (And.intro (Contract.wk (c_ref08_Rank p0.Items p1.A y24_4 e24_4) (And.intro ff (And.intro rfl (And.intro rfl trivial)))) (And.intro rfl ?_))
                  refine Exists.intro (CK.plain _ _) (And.intro (Contract.wk (c_ref08_Whole y24_4 y24_5 e24_5) (And.intro rfl trivial)) (And.intro rfl ?_))
                  replace h := Option.some.inj h
                  first | subst h | rw [← h]
                  exact (And.intro rfl (And.intro rfl (And.intro rfl (And.intro rfl (And.intro rfl (And.intro rfl (And.intro rfl (And.intro rfl (And.intro rfl (And.intro rfl (And.intro rfl (And.intro rfl trivial))))))))))))
                · skip
                  replace h := cF g9 h
                  refine Exists.intro none ?_
                  refine And.intro (fun g10 => ?_) (fun g10 => ?_)
                  · skip
                    replace h := cT g10 h
                    refine Exists.intro none ?_
                    refine Exists.intro (CK.plain _ _) (And.intro (Contract.wk (c_ref08_Asks p1.A p1.B) (And.intro rfl (And.intro rfl trivial))) (And.intro rfl ?_))
                    refine And.intro (fun g11 => ?_) (fun g11 => ?_)
                    · skip
                      replace h := cT g11 h
                      refine Exists.intro none ?_
                      replace h := Option.some.inj h
                      first | subst h | rw [← h]
                      exact (And.intro rfl (And.intro rfl (And.intro rfl (And.intro rfl (And.intro rfl (And.intro rfl (And.intro rfl (And.intro rfl (And.intro rfl (And.intro rfl (And.intro rfl (And.intro rfl trivial))))))))))))
                    · skip
                      replace h := cF g11 h
                      refine Exists.intro none ?_
                      obtain ⟨y28_6, e28_6, h⟩ := bS h
                      refine Exists.intro (CK.plain _ _) (And.intro (Contract.wk (c_ref08_Quantile p0.Items p1.A p1.B y28_6 e28_6) (And.intro ff (And.intro rfl (And.intro rfl (And.intro rfl trivial))))) (And.intro rfl ?_))
                      refine Exists.intro none ?_
                      refine And.intro (fun g12 => ?_) (fun g12 => ?_)
                      · skip
                        replace h := cT g12 h
                        refine Exists.intro none ?_
                        replace h := Option.some.inj h
                        first | subst h | rw [← h]
                        exact (And.intro rfl (And.intro rfl (And.intro rfl (And.intro rfl (And.intro rfl (And.intro rfl (And.intro rfl (And.intro rfl (And.intro rfl (And.intro rfl (And.intro rfl (And.intro rfl trivial))))))))))))
                      · skip
                        replace h := cF g12 h
                        refine Exists.intro none ?_
                        replace h := Option.some.inj h
                        first | subst h | rw [← h]
                        exact (And.intro rfl (And.intro rfl (And.intro rfl (And.intro rfl (And.intro rfl (And.intro rfl (And.intro ff (And.intro (by first | rfl | (simp only [encZ, List.map_append, List.map_cons, List.map_nil, List.map_take, List.map_drop, List.map_set, List.map_replicate]; done) | (simp only [encZ, List.map_append, List.map_cons, List.map_nil, List.map_take, List.map_drop, List.map_set, List.map_replicate]; rfl) | (simp only [encZ, List.map_append, List.map_cons, List.map_nil, List.map_take, List.map_drop, List.map_set, List.map_replicate, eL, enc_api_Recent, enc_api_Answer]; done) | (simp only [encZ, List.map_append, List.map_cons, List.map_nil, List.map_take, List.map_drop, List.map_set, List.map_replicate, eL, enc_api_Recent, enc_api_Answer]; rfl)) (And.intro rfl (And.intro rfl (And.intro rfl (And.intro rfl (And.intro rfl trivial)))))))))))))
                  · skip
                    replace h := cF g10 h
                    refine Exists.intro none ?_
                    replace h := Option.some.inj h
                    first | subst h | rw [← h]
                    exact (And.intro rfl (And.intro rfl (And.intro rfl (And.intro rfl (And.intro rfl (And.intro rfl (And.intro rfl (And.intro rfl (And.intro rfl (And.intro rfl (And.intro rfl (And.intro rfl trivial))))))))))))

theorem c_ref09_SameNumbers (p0 : (List Int)) (p1 : (List Int)) (r : Bool) (h : ref09_SameNumbers p0 p1 = some r) : Contract Tryz.prog 32 [.lst 1 false (List.map (eI .i64) p0), .lst 1 false (List.map (eI .i64) p1)] [] (.sb r) [] := by
  refine contract_of_vcs tab_ok orders_ok Tryz.func32 Tryz.call32 (by kernel_rfl) 0 rfl rfl _ rfl ?_
  delta ref09_SameNumbers at h
  refine Exists.intro none ?_
  refine Exists.intro none ?_
  refine Exists.intro [.int .i64 (p0.length : Int)] (And.intro (lenS (eI .i64) p0) ?_)
  refine Exists.intro [.int .i64 (p1.length : Int)] (And.intro (lenS (eI .i64) p1) ?_)
  refine And.intro (fun g1 => ?_) (fun g1 => ?_)
  · skip
    replace h := cT g1 h
    refine Exists.intro none ?_
    replace h := Option.some.inj h
    first | subst h | rw [← h]
    exact (And.intro rfl trivial)
  · skip
    replace h := cF g1 h
    refine Exists.intro none ?_
    refine Exists.intro [.int .i64 (p0.length : Int)] (And.intro (lenS (eI .i64) p0) ?_)
    replace h : ref09_SameNumbers_l3 p0 p1 (0:Int) = some r := h
    delta ref09_SameNumbers_l3 at h
    obtain ⟨n1, h⟩ := loopS h
    refine Exists.intro ⟨Int × Nat, fun q => [(.tmp 0, .av (.lst 1 false (List.map (eI .i64) p0))), (.tmp 1, .av (.lst 1 false (List.map (eI .i64) p1))), (.tmp 12, .av (.int .i64 (p0.length : Int))), (.tmp 13, .av (.int .i64 q.1))], fun q => loopN (fun (s : Int) => ref09_SameNumbers_l3s p0 p1 s) q.2 q.1 = some r, fun q => q.2⟩ (And.intro (Exists.intro [] (Exists.intro [] (Exists.intro ((0:Int), n1) (And.intro h (And.intro rfl (And.intro ff (And.intro rfl (And.intro ff (And.intro rfl (And.intro rfl (And.intro rfl trivial))))))))))) ?_)
    clear h
    refine fun q h => ?_
    obtain ⟨v3_13, n1⟩ := q
    obtain ⟨m1, x1, hm1, h, hl1, hr1⟩ := loopN_step h
    replace hm1 : n1 = m1 + 1 := hm1
    subst hm1
    replace h : ref09_SameNumbers_l3s p0 p1 v3_13 = some x1 := h
    delta ref09_SameNumbers_l3s at h
    refine Exists.intro none ?_
    refine And.intro (fun g2 => ?_) (fun g2 => ?_)
    · skip
      replace h := cT g2 h
      refine Exists.intro none ?_
      refine Exists.intro none ?_
      obtain ⟨x6_2, e6_2, h⟩ := bS h
      obtain ⟨x6_6, e6_6, h⟩ := bS h
      refine Exists.intro [.int .i64 x6_2] (And.intro (idx_map (eI .i64) e6_2) ?_)
      refine Exists.intro [.int .i64 x6_6] (And.intro (idx_map (eI .i64) e6_6) ?_)
      refine And.intro (fun g3 => ?_) (fun g3 => ?_)
      · skip
        replace h := cT g3 h
        refine Exists.intro none ?_
        replace h := retS h hr1
        first | subst h | rw [← h]
        exact (And.intro rfl trivial)
      · skip
        replace h := cF g3 h
        refine Exists.intro none ?_
        exact Exists.intro [] (Exists.intro [] (Exists.intro ((w64 (v3_13 + (1:Int))), m1) (And.intro (hl1 (w64 (v3_13 + (1:Int))) (Option.some.inj h).symm) (And.intro (Nat.lt_succ_self m1) (And.intro rfl (And.intro ff (And.intro rfl (And.intro ff (And.intro rfl (And.intro rfl (And.intro rfl trivial)))))))))))
    · skip
      replace h := cF g2 h
      replace h := popS h hr1
      refine Exists.intro none ?_
      replace h := Option.some.inj h
      first | subst h | rw [← h]
      exact (And.intro rfl trivial)

theorem c_ref09_SameAnswer (p0 : api_Answer) (p1 : api_Answer) (r : Bool) (h : ref09_SameAnswer p0 p1 = some r) : Contract Tryz.prog 8 [.agg [.int .i64 p0.Bounds.Lo.Num, .int .i64 p0.Bounds.Lo.Den, .int .i64 p0.Bounds.Est.Num, .int .i64 p0.Bounds.Est.Den, .int .i64 p0.Bounds.Hi.Num, .int .i64 p0.Bounds.Hi.Den, .lst 1 false (List.map (eI .i64) p0.Values), .int .u64 p0.Fraction.Num.Hi, .int .u64 p0.Fraction.Num.Lo, .int .u64 p0.Fraction.Den.Hi, .int .u64 p0.Fraction.Den.Lo], .agg [.int .i64 p1.Bounds.Lo.Num, .int .i64 p1.Bounds.Lo.Den, .int .i64 p1.Bounds.Est.Num, .int .i64 p1.Bounds.Est.Den, .int .i64 p1.Bounds.Hi.Num, .int .i64 p1.Bounds.Hi.Den, .lst 1 false (List.map (eI .i64) p1.Values), .int .u64 p1.Fraction.Num.Hi, .int .u64 p1.Fraction.Num.Lo, .int .u64 p1.Fraction.Den.Hi, .int .u64 p1.Fraction.Den.Lo]] [] (.sb r) [] := by
  refine contract_of_vcs tab_ok orders_ok Tryz.func8 Tryz.call8 (by kernel_rfl) 0 rfl rfl _ rfl ?_
  delta ref09_SameAnswer at h
  refine Exists.intro none ?_
  refine Exists.intro none ?_
  obtain ⟨y1_10, e1_10, h⟩ := bS h
  refine Exists.intro none ?_
  refine And.intro (fun g1 => ?_) (fun g1 => ?_)
  · skip
    refine Exists.intro (CK.plain _ _) (And.intro (Contract.wk (c_ref09_SameNumbers p0.Values p1.Values y1_10 (gdT g1 e1_10)) (And.intro ff (And.intro rfl (And.intro ff (And.intro rfl trivial))))) (And.intro rfl ?_))
    refine And.intro (fun g2 => ?_) (fun g2 => ?_)
    · skip
      replace h := Option.some.inj h
      first | subst h | rw [← h]
      exact (And.intro (Eq.symm (aR (aR g1 g2) rfl)) trivial)
    · skip
      replace h := Option.some.inj h
      first | subst h | rw [← h]
      exact (And.intro (Eq.symm (aL (aR g1 g2))) trivial)
  · skip
    replace h := Option.some.inj h
    first | subst h | rw [← h]
    exact (And.intro (Eq.symm (aL (aL g1))) trivial)

theorem c_law09_RecentAsks (p0 : api_Recent) (p1 : api_Query) (r : Bool) (h : law09_RecentAsks p0 p1 = some r) : Contract Tryz.prog 3 [.agg [.int .i64 p0.W, .int .i64 p0.Cap, .int .i64 p0.Now, .lst 2 false (List.map enc_api_Item p0.Items)], .agg [.int .i64 p1.Op, .int .i64 p1.A, .int .i64 p1.B]] [] (.sb r) [] := by
  refine contract_of_vcs tab_ok orders_ok Tryz.func3 Tryz.call3 (by kernel_rfl) 0 rfl rfl _ rfl ?_
  delta law09_RecentAsks at h
  refine Exists.intro none ?_
  refine Exists.intro none ?_
  refine Exists.intro (CK.plain _ _) (And.intro (Contract.wk (c_law09_few p0) (And.intro rfl (And.intro rfl (And.intro rfl (And.intro ff (And.intro rfl trivial)))))) (And.intro rfl ?_))
  refine And.intro (fun g1 => ?_) (fun g1 => ?_)
  · skip
    replace h := cT g1 h
    refine Exists.intro none ?_
    obtain ⟨y2_0, e2_0, h⟩ := bS h
    refine Exists.intro (CK.plain _ _) (And.intro (Contract.wk (c_law09_awake y2_0 e2_0) trivial) (And.intro rfl ?_))
    replace h := Option.some.inj h
    first | subst h | rw [← h]
    exact (And.intro rfl trivial)
  · skip
    replace h := cF g1 h
    refine Exists.intro none ?_
    obtain ⟨y3_2, e3_2, h⟩ := bS h
    refine Exists.intro (CK.plain _ _) (And.intro (Contract.wk (c_recent_Ask p0 p1 y3_2 e3_2) (And.intro rfl (And.intro rfl (And.intro rfl (And.intro ff (And.intro rfl (And.intro rfl (And.intro rfl (And.intro rfl trivial))))))))) (And.intro rfl ?_))
    refine Exists.intro none ?_
    obtain ⟨y4_2, e4_2, h⟩ := bS h
    refine Exists.intro (CK.plain _ _) (And.intro (Contract.wk (c_ref09_Ask p0 p1 y4_2 e4_2) (And.intro rfl (And.intro rfl (And.intro rfl (And.intro ff (And.intro rfl (And.intro rfl (And.intro rfl (And.intro rfl trivial))))))))) (And.intro rfl ?_))
    refine Exists.intro none ?_
    obtain ⟨y5_2, e5_2, h⟩ := bS h
    obtain ⟨y5_9, e5_9, h⟩ := bS h
    refine Exists.intro none ?_
    refine Exists.intro (CK.plain _ _) (And.intro (Contract.wk (c_ref09_SameAnswer y3_2.1 y4_2.1 y5_2 e5_2) (And.intro rfl (And.intro rfl (And.intro rfl (And.intro rfl (And.intro rfl (And.intro rfl (And.intro ff (And.intro rfl (And.intro rfl (And.intro rfl (And.intro rfl (And.intro rfl (And.intro rfl (And.intro rfl (And.intro rfl (And.intro rfl (And.intro rfl (And.intro rfl (And.intro ff (And.intro rfl (And.intro rfl (And.intro rfl (And.intro rfl (And.intro rfl trivial))))))))))))))))))))))))) (And.intro rfl ?_))
    refine And.intro (fun g2 => ?_) (fun g2 => ?_)
    · skip
      refine And.intro (fun g3 => ?_) (fun g3 => ?_)
      · skip
        refine Exists.intro (CK.plain _ _) (And.intro (Contract.wk (c_law09_awake y5_9 (gdT (aR g2 g3) e5_9)) trivial) (And.intro rfl ?_))
        replace h := Option.some.inj h
        first | subst h | rw [← h]
        exact (And.intro (Eq.symm (aR (aR g2 g3) rfl)) trivial)
      · skip
        replace h := Option.some.inj h
        first | subst h | rw [← h]
        exact (And.intro (Eq.symm (aL (aR g2 g3))) trivial)
    · skip
      replace h := Option.some.inj h
      first | subst h | rw [← h]
      exact (And.intro (Eq.symm (aL (aL g2))) trivial)

end Go.Proofs.YtpclnmpmammlfaaGreat
