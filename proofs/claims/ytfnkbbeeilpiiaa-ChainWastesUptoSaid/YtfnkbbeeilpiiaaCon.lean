/- The contracts: each function of the program does what its function on plain data says. Made by program. -/
import Derived.Test.YtfnkbbeeilpiiaaTab
import Derived.Test.YtfnkbbeeilpiiaaWin
set_option linter.unusedVariables false
set_option linter.unusedSimpArgs false
set_option linter.unnecessarySimpa false
set_option maxHeartbeats 4000000
namespace Go.Proofs.Ytfnkbbeeilpiiaa
open Go.Vc Go.Dec Go.Win

theorem c_chain_New' (p0 : Int) (p1 : Int) (r : (api_Chain × Int)) (h : chain_New p0 p1 = r) : Contract Try.prog 38 [.int .i64 p0, .int .i64 p1] [] (.tup [.agg [.int .i64 r.1.W, .int .i64 r.1.Cap, .int .i64 r.1.I, .int .i64 r.1.Next, .lst 2 false (List.map enc_api_Link r.1.Links)], .int .i64 r.2]) [] := by
  refine contract_of_vcs tab_ok orders_ok Try.func38 Try.call38 (by kernel_rfl) 0 rfl rfl _ rfl ?_
  delta chain_New at h
  refine Exists.intro none ?_
  refine And.intro (fun g1 => ?_) (fun g1 => ?_)
  · skip
    refine And.intro (fun g2 => ?_) (fun g2 => ?_)
    · skip
      refine And.intro (fun g3 => ?_) (fun g3 => ?_)
      · skip
        refine And.intro (fun g4 => ?_) (fun g4 => ?_)
        · skip
          replace h := cT (oR (oR (oR g1 g2) g3) g4) h
          subst h
          exact (And.intro rfl (And.intro rfl (And.intro rfl (And.intro rfl (And.intro rfl (And.intro rfl trivial))))))
        · skip
          replace h := cF (oR (oR (oR g1 g2) g3) g4) h
          subst h
          exact (And.intro rfl (And.intro rfl (And.intro rfl (And.intro rfl (And.intro rfl (And.intro rfl trivial))))))
      · skip
        replace h := cT (oL (oR (oR g1 g2) g3)) h
        subst h
        exact (And.intro rfl (And.intro rfl (And.intro rfl (And.intro rfl (And.intro rfl (And.intro rfl trivial))))))
    · skip
      replace h := cT (oL (oL (oR g1 g2))) h
      subst h
      exact (And.intro rfl (And.intro rfl (And.intro rfl (And.intro rfl (And.intro rfl (And.intro rfl trivial))))))
  · skip
    replace h := cT (oL (oL (oL g1))) h
    subst h
    exact (And.intro rfl (And.intro rfl (And.intro rfl (And.intro rfl (And.intro rfl (And.intro rfl trivial))))))
theorem c_chain_New (p0 : Int) (p1 : Int) : Contract Try.prog 38 [.int .i64 p0, .int .i64 p1] [] (.tup [.agg [.int .i64 (chain_New p0 p1).1.W, .int .i64 (chain_New p0 p1).1.Cap, .int .i64 (chain_New p0 p1).1.I, .int .i64 (chain_New p0 p1).1.Next, .lst 2 false (List.map enc_api_Link (chain_New p0 p1).1.Links)], .int .i64 (chain_New p0 p1).2]) [] := c_chain_New' p0 p1 (chain_New p0 p1) rfl

theorem c_ref18_Same (p0 : api_Chain) (p1 : api_Chain) (r : Bool) (h : ref18_Same p0 p1 = some r) : Contract Try.prog 40 [.agg [.int .i64 p0.W, .int .i64 p0.Cap, .int .i64 p0.I, .int .i64 p0.Next, .lst 2 false (List.map enc_api_Link p0.Links)], .agg [.int .i64 p1.W, .int .i64 p1.Cap, .int .i64 p1.I, .int .i64 p1.Next, .lst 2 false (List.map enc_api_Link p1.Links)]] [] (.sb r) [] := by
  refine contract_of_vcs tab_ok orders_ok Try.func40 Try.call40 (by kernel_rfl) 0 rfl rfl _ rfl ?_
  delta ref18_Same at h
  refine Exists.intro none ?_
  refine And.intro (fun g1 => ?_) (fun g1 => ?_)
  · skip
    refine And.intro (fun g2 => ?_) (fun g2 => ?_)
    · skip
      refine And.intro (fun g3 => ?_) (fun g3 => ?_)
      · skip
        refine And.intro (fun g4 => ?_) (fun g4 => ?_)
        · skip
          refine Exists.intro [.int .i64 (p0.Links.length : Int)] (And.intro (lenS enc_api_Link p0.Links) ?_)
          refine Exists.intro [.int .i64 (p1.Links.length : Int)] (And.intro (lenS enc_api_Link p1.Links) ?_)
          refine And.intro (fun g5 => ?_) (fun g5 => ?_)
          · skip
            replace h := cT (oR (oR (oR (oR g1 g2) g3) g4) g5) h
            replace h := Option.some.inj h
            subst h
            exact (And.intro rfl trivial)
          · skip
            replace h := cF (oR (oR (oR (oR g1 g2) g3) g4) g5) h
            refine Exists.intro [.int .i64 (p0.Links.length : Int)] (And.intro (lenS enc_api_Link p0.Links) ?_)
            replace h : ref18_Same_l3 p0 p1 (0:Int) = some r := h
            delta ref18_Same_l3 at h
            obtain ⟨n1, h⟩ := loopS h
            refine Exists.intro ⟨Int × Nat, fun q => [(.tmp 2, .av (.ptr 0 0)), (.tmp 3, .av (.ptr 1 0)), (.tmp 43, .av (.int .i64 (p0.Links.length : Int))), (.tmp 44, .av (.int .i64 q.1)), (.box 0, .box [.int .i64 p0.W, .int .i64 p0.Cap, .int .i64 p0.I, .int .i64 p0.Next, .lst 2 false (List.map enc_api_Link p0.Links)]), (.box 1, .box [.int .i64 p1.W, .int .i64 p1.Cap, .int .i64 p1.I, .int .i64 p1.Next, .lst 2 false (List.map enc_api_Link p1.Links)])], fun q => loopN (fun (s : Int) => ref18_Same_l3s p0 p1 s) q.2 q.1 = some r, fun q => q.2⟩ (And.intro (Exists.intro [] (Exists.intro [] (Exists.intro ((0:Int), n1) (And.intro h (And.intro rfl (And.intro rfl (And.intro rfl (And.intro rfl (And.intro rfl (And.intro rfl (And.intro rfl (And.intro ff (And.intro rfl (And.intro rfl (And.intro rfl (And.intro rfl (And.intro rfl (And.intro ff (And.intro rfl trivial))))))))))))))))))) ?_)
            clear h
            refine fun q h => ?_
            obtain ⟨v3_44, n1⟩ := q
            obtain ⟨m1, x1, hm1, h, hl1, hr1⟩ := loopN_step h
            replace hm1 : n1 = m1 + 1 := hm1
            subst hm1
            replace h : ref18_Same_l3s p0 p1 v3_44 = some x1 := h
            delta ref18_Same_l3s at h
            refine And.intro (fun g6 => ?_) (fun g6 => ?_)
            · skip
              replace h := cT g6 h
              obtain ⟨x6_3, e6_3, h⟩ := bS h
              obtain ⟨x6_8, e6_8, h⟩ := bS h
              refine Exists.intro [.int .i64 x6_3.I, .int .i64 x6_3.V] (And.intro (idx_map enc_api_Link e6_3) ?_)
              refine Exists.intro [.int .i64 x6_8.I, .int .i64 x6_8.V] (And.intro (idx_map enc_api_Link e6_8) ?_)
              refine And.intro (fun g7 => ?_) (fun g7 => ?_)
              · skip
                replace h := cT g7 h
                replace h := retS h hr1
                subst h
                exact (And.intro rfl trivial)
              · skip
                replace h := cF g7 h
                exact Exists.intro [] (Exists.intro [] (Exists.intro ((w64 (v3_44 + (1:Int))), m1) (And.intro (hl1 (w64 (v3_44 + (1:Int))) (Option.some.inj h).symm) (And.intro (Nat.lt_succ_self m1) (And.intro rfl (And.intro rfl (And.intro rfl (And.intro rfl (And.intro rfl (And.intro rfl (And.intro rfl (And.intro ff (And.intro rfl (And.intro rfl (And.intro rfl (And.intro rfl (And.intro rfl (And.intro ff (And.intro rfl trivial)))))))))))))))))))
            · skip
              replace h := cF g6 h
              replace h := popS h hr1
              replace h := Option.some.inj h
              subst h
              exact (And.intro rfl trivial)
        · skip
          replace h := cT (oL (oR (oR (oR g1 g2) g3) g4)) h
          replace h := Option.some.inj h
          subst h
          exact (And.intro rfl trivial)
      · skip
        replace h := cT (oL (oL (oR (oR g1 g2) g3))) h
        replace h := Option.some.inj h
        subst h
        exact (And.intro rfl trivial)
    · skip
      replace h := cT (oL (oL (oL (oR g1 g2)))) h
      replace h := Option.some.inj h
      subst h
      exact (And.intro rfl trivial)
  · skip
    replace h := cT (oL (oL (oL (oL g1)))) h
    replace h := Option.some.inj h
    subst h
    exact (And.intro rfl trivial)

theorem c_chain_Validate (p0 : api_Chain) (r : Int) (h : chain_Validate p0 = some r) : Contract Try.prog 45 [.agg [.int .i64 p0.W, .int .i64 p0.Cap, .int .i64 p0.I, .int .i64 p0.Next, .lst 2 false (List.map enc_api_Link p0.Links)]] [] (.int .i64 r) [] := by
  refine contract_of_vcs tab_ok orders_ok Try.func45 Try.call45 (by kernel_rfl) 0 rfl rfl _ rfl ?_
  delta chain_Validate at h
  refine Exists.intro none ?_
  refine And.intro (fun g1 => ?_) (fun g1 => ?_)
  · skip
    refine And.intro (fun g2 => ?_) (fun g2 => ?_)
    · skip
      refine And.intro (fun g3 => ?_) (fun g3 => ?_)
      · skip
        refine And.intro (fun g4 => ?_) (fun g4 => ?_)
        · skip
          refine And.intro (fun g5 => ?_) (fun g5 => ?_)
          · skip
            refine And.intro (fun g6 => ?_) (fun g6 => ?_)
            · skip
              refine Exists.intro [.int .i64 (p0.Links.length : Int)] (And.intro (lenS enc_api_Link p0.Links) ?_)
              refine And.intro (fun g7 => ?_) (fun g7 => ?_)
              · skip
                replace h := cT (oR (oR (oR (oR (oR (oR g1 g2) g3) g4) g5) g6) g7) h
                replace h := Option.some.inj h
                subst h
                exact (And.intro rfl trivial)
              · skip
                replace h := cF (oR (oR (oR (oR (oR (oR g1 g2) g3) g4) g5) g6) g7) h
                refine And.intro (fun g8 => ?_) (fun g8 => ?_)
                · skip
                  replace h := cT g8 h
                  refine Exists.intro none ?_
                  refine Exists.intro [.int .i64 (p0.Links.length : Int)] (And.intro (lenS enc_api_Link p0.Links) ?_)
                  refine And.intro (fun g9 => ?_) (fun g9 => ?_)
                  · skip
                    refine And.intro (fun g10 => ?_) (fun g10 => ?_)
                    · skip
                      replace h := cT (oR g9 g10) h
                      replace h := Option.some.inj h
                      subst h
                      exact (And.intro rfl trivial)
                    · skip
                      replace h := cF (oR g9 g10) h
                      replace h := Option.some.inj h
                      subst h
                      exact (And.intro rfl trivial)
                  · skip
                    replace h := cT (oL g9) h
                    replace h := Option.some.inj h
                    subst h
                    exact (And.intro rfl trivial)
                · skip
                  replace h := cF g8 h
                  refine Exists.intro [.int .i64 (p0.Links.length : Int)] (And.intro (lenS enc_api_Link p0.Links) ?_)
                  refine And.intro (fun g11 => ?_) (fun g11 => ?_)
                  · skip
                    replace h := cT g11 h
                    replace h := Option.some.inj h
                    subst h
                    exact (And.intro rfl trivial)
                  · skip
                    replace h := cF g11 h
                    refine Exists.intro [.int .i64 (p0.Links.length : Int)] (And.intro (lenS enc_api_Link p0.Links) ?_)
                    replace h : chain_Validate_l6 p0 (0:Int) = some r := h
                    delta chain_Validate_l6 at h
                    obtain ⟨n1, h⟩ := loopS h
                    refine Exists.intro ⟨Int × Nat, fun q => [(.tmp 1, .av (.ptr 0 0)), (.tmp 58, .av (.lst 2 false (List.map enc_api_Link p0.Links))), (.tmp 59, .av (.int .i64 (p0.Links.length : Int))), (.tmp 60, .av (.int .i64 q.1)), (.box 0, .box [.int .i64 p0.W, .int .i64 p0.Cap, .int .i64 p0.I, .int .i64 p0.Next, .lst 2 false (List.map enc_api_Link p0.Links)])], fun q => loopN (fun (s : Int) => chain_Validate_l6s p0 s) q.2 q.1 = some r, fun q => q.2⟩ (And.intro (Exists.intro [] (Exists.intro [] (Exists.intro ((0:Int), n1) (And.intro h (And.intro rfl (And.intro ff (And.intro rfl (And.intro rfl (And.intro rfl (And.intro rfl (And.intro rfl (And.intro rfl (And.intro rfl (And.intro ff (And.intro rfl trivial))))))))))))))) ?_)
                    clear h
                    refine fun q h => ?_
                    obtain ⟨v6_60, n1⟩ := q
                    obtain ⟨m1, x1, hm1, h, hl1, hr1⟩ := loopN_step h
                    replace hm1 : n1 = m1 + 1 := hm1
                    subst hm1
                    replace h : chain_Validate_l6s p0 v6_60 = some x1 := h
                    delta chain_Validate_l6s at h
                    refine And.intro (fun g12 => ?_) (fun g12 => ?_)
                    · skip
                      replace h := cT g12 h
                      obtain ⟨x11_1, e11_1, h⟩ := bS h
                      refine Exists.intro [.int .i64 x11_1.I, .int .i64 x11_1.V] (And.intro (idx_map enc_api_Link e11_1) ?_)
                      refine Exists.intro none ?_
                      refine And.intro (fun g13 => ?_) (fun g13 => ?_)
                      · skip
                        refine And.intro (fun g14 => ?_) (fun g14 => ?_)
                        · skip
                          refine And.intro (fun g15 => ?_) (fun g15 => ?_)
                          · skip
                            refine And.intro (fun g16 => ?_) (fun g16 => ?_)
                            · skip
                              refine And.intro (fun g17 => ?_) (fun g17 => ?_)
                              · skip
                                replace h := cT (oR (oR (oR (oR g13 g14) g15) g16) g17) h
                                replace h := retS h hr1
                                subst h
                                exact (And.intro rfl trivial)
                              · skip
                                replace h := cF (oR (oR (oR (oR g13 g14) g15) g16) g17) h
                                obtain ⟨x14_9, e14_9, h⟩ := bS h
                                obtain ⟨x14_20, e14_20, h⟩ := bS h
                                refine Exists.intro (some (⟨Unit, fun _ => [(.tmp 1, .av (.ptr 0 0)), (.tmp 58, .av (.lst 2 false (List.map enc_api_Link p0.Links))), (.tmp 59, .av (.int .i64 (p0.Links.length : Int))), (.tmp 60, .av (.int .i64 v6_60)), (.tmp 123, .av (.sb ((decide (v6_60 > (0:Int))) && ((decide (x11_1.I ≤ x14_9.I)) || (decide (x11_1.I > (w64 (x14_20.I + p0.W)))))))), (.box 0, .box [.int .i64 p0.W, .int .i64 p0.Cap, .int .i64 p0.I, .int .i64 p0.Next, .lst 2 false (List.map enc_api_Link p0.Links)])], fun _ => True, fun _ => 0⟩, 1000000)) (And.intro ?_ (fun _ _ => ?_))
                                · skip
                                  refine And.intro (fun g18 => ?_) (fun g18 => ?_)
                                  · skip
                                    refine Exists.intro [.int .i64 x14_9.I, .int .i64 x14_9.V] (And.intro (idx_map enc_api_Link (gdT g18 e14_9)) ?_)
                                    refine And.intro (fun g19 => ?_) (fun g19 => ?_)
                                    · skip
                                      refine Exists.intro [.int .i64 x14_20.I, .int .i64 x14_20.V] (And.intro (idx_map enc_api_Link (gdT (aR g18 (nE g19)) e14_20)) ?_)
                                      exact Exists.intro [] (Exists.intro [] (Exists.intro () (And.intro trivial (And.intro rfl (And.intro ff (And.intro rfl (And.intro rfl (And.intro rfl (And.intro (Eq.symm (aR g18 (oR g19 rfl))) (And.intro rfl (And.intro rfl (And.intro rfl (And.intro rfl (And.intro ff (And.intro rfl trivial)))))))))))))))
                                    · skip
                                      exact Exists.intro [] (Exists.intro [] (Exists.intro () (And.intro trivial (And.intro rfl (And.intro ff (And.intro rfl (And.intro rfl (And.intro rfl (And.intro (Eq.symm (aR g18 (oL g19))) (And.intro rfl (And.intro rfl (And.intro rfl (And.intro rfl (And.intro ff (And.intro rfl trivial)))))))))))))))
                                  · skip
                                    exact Exists.intro [] (Exists.intro [] (Exists.intro () (And.intro trivial (And.intro rfl (And.intro ff (And.intro rfl (And.intro rfl (And.intro rfl (And.intro (Eq.symm (aL g18)) (And.intro rfl (And.intro rfl (And.intro rfl (And.intro rfl (And.intro ff (And.intro rfl trivial)))))))))))))))
                                · skip
                                  refine And.intro (fun g20 => ?_) (fun g20 => ?_)
                                  · skip
                                    replace h := cT g20 h
                                    replace h := retS h hr1
                                    subst h
                                    exact (And.intro rfl trivial)
                                  · skip
                                    replace h := cF g20 h
                                    exact Exists.intro [] (Exists.intro [] (Exists.intro ((w64 (v6_60 + (1:Int))), m1) (And.intro (hl1 (w64 (v6_60 + (1:Int))) (Option.some.inj h).symm) (And.intro (Nat.lt_succ_self m1) (And.intro rfl (And.intro ff (And.intro rfl (And.intro rfl (And.intro rfl (And.intro rfl (And.intro rfl (And.intro rfl (And.intro rfl (And.intro ff (And.intro rfl trivial)))))))))))))))
                            · skip
                              replace h := cT (oL (oR (oR (oR g13 g14) g15) g16)) h
                              replace h := retS h hr1
                              subst h
                              exact (And.intro rfl trivial)
                          · skip
                            replace h := cT (oL (oL (oR (oR g13 g14) g15))) h
                            replace h := retS h hr1
                            subst h
                            exact (And.intro rfl trivial)
                        · skip
                          replace h := cT (oL (oL (oL (oR g13 g14)))) h
                          replace h := retS h hr1
                          subst h
                          exact (And.intro rfl trivial)
                      · skip
                        replace h := cT (oL (oL (oL (oL g13)))) h
                        replace h := retS h hr1
                        subst h
                        exact (And.intro rfl trivial)
                    · skip
                      replace h := cF g12 h
                      replace h := popS h hr1
                      obtain ⟨x17_14, e17_14, h⟩ := bS h
                      refine Exists.intro none ?_
                      refine And.intro (fun g21 => ?_) (fun g21 => ?_)
                      · skip
                        refine Exists.intro [.int .i64 (p0.Links.length : Int)] (And.intro (lenS enc_api_Link p0.Links) ?_)
                        refine Exists.intro [.int .i64 x17_14.I, .int .i64 x17_14.V] (And.intro (idx_map enc_api_Link (gdT (nE g21) e17_14)) ?_)
                        refine And.intro (fun g22 => ?_) (fun g22 => ?_)
                        · skip
                          replace h := cT (oR g21 g22) h
                          replace h := Option.some.inj h
                          subst h
                          exact (And.intro rfl trivial)
                        · skip
                          replace h := cF (oR g21 g22) h
                          replace h := Option.some.inj h
                          subst h
                          exact (And.intro rfl trivial)
                      · skip
                        replace h := cT (oL g21) h
                        replace h := Option.some.inj h
                        subst h
                        exact (And.intro rfl trivial)
            · skip
              replace h := cT (oL (oR (oR (oR (oR (oR g1 g2) g3) g4) g5) g6)) h
              replace h := Option.some.inj h
              subst h
              exact (And.intro rfl trivial)
          · skip
            replace h := cT (oL (oL (oR (oR (oR (oR g1 g2) g3) g4) g5))) h
            replace h := Option.some.inj h
            subst h
            exact (And.intro rfl trivial)
        · skip
          replace h := cT (oL (oL (oL (oR (oR (oR g1 g2) g3) g4)))) h
          replace h := Option.some.inj h
          subst h
          exact (And.intro rfl trivial)
      · skip
        replace h := cT (oL (oL (oL (oL (oR (oR g1 g2) g3))))) h
        replace h := Option.some.inj h
        subst h
        exact (And.intro rfl trivial)
    · skip
      replace h := cT (oL (oL (oL (oL (oL (oR g1 g2)))))) h
      replace h := Option.some.inj h
      subst h
      exact (And.intro rfl trivial)
  · skip
    replace h := cT (oL (oL (oL (oL (oL (oL g1)))))) h
    replace h := Option.some.inj h
    subst h
    exact (And.intro rfl trivial)

theorem c_draw_Next (p0 : (List Int)) (p1 : Int) (p2 : Int) (r : (Int × Int × Int)) (h : draw_Next p0 p1 p2 = some r) : Contract Try.prog 81 [.lst 1 false (List.map (eI .i64) p0), .int .i64 p1, .int .i64 p2] [] (.tup [.int .i64 r.1, .int .i64 r.2.1, .int .i64 r.2.2]) [] := by
  refine contract_of_vcs tab_ok orders_ok Try.func81 Try.call81 (by kernel_rfl) 0 rfl rfl _ rfl ?_
  delta draw_Next at h
  refine Exists.intro none ?_
  refine And.intro (fun g1 => ?_) (fun g1 => ?_)
  · skip
    refine And.intro (fun g2 => ?_) (fun g2 => ?_)
    · skip
      replace h := cT (oR g1 g2) h
      replace h := Option.some.inj h
      subst h
      exact (And.intro rfl (And.intro rfl (And.intro rfl trivial)))
    · skip
      replace h := cF (oR g1 g2) h
      obtain ⟨x3_7, e3_7, h⟩ := bS h
      obtain ⟨x3_14, e3_14, h⟩ := bS h
      refine Exists.intro none ?_
      refine Exists.intro [.int .i64 (p0.length : Int)] (And.intro (lenS (eI .i64) p0) ?_)
      refine And.intro (fun g3 => ?_) (fun g3 => ?_)
      · skip
        refine Exists.intro [.int .i64 x3_7] (And.intro (idx_map (eI .i64) (gdT (nE g3) e3_7)) ?_)
        refine And.intro (fun g4 => ?_) (fun g4 => ?_)
        · skip
          refine Exists.intro [.int .i64 x3_14] (And.intro (idx_map (eI .i64) (gdT (nE (oR g3 g4)) e3_14)) ?_)
          refine And.intro (fun g5 => ?_) (fun g5 => ?_)
          · skip
            replace h := cT (oR (oR g3 g4) g5) h
            replace h := Option.some.inj h
            subst h
            exact (And.intro rfl (And.intro rfl (And.intro rfl trivial)))
          · skip
            replace h := cF (oR (oR g3 g4) g5) h
            obtain ⟨x5_2, e5_2, h⟩ := bS h
            refine Exists.intro [.int .i64 x5_2] (And.intro (idx_map (eI .i64) e5_2) ?_)
            replace h := Option.some.inj h
            subst h
            exact (And.intro rfl (And.intro rfl (And.intro rfl trivial)))
        · skip
          replace h := cT (oL (oR g3 g4)) h
          replace h := Option.some.inj h
          subst h
          exact (And.intro rfl (And.intro rfl (And.intro rfl trivial)))
      · skip
        replace h := cT (oL (oL g3)) h
        replace h := Option.some.inj h
        subst h
        exact (And.intro rfl (And.intro rfl (And.intro rfl trivial)))
  · skip
    replace h := cT (oL g1) h
    replace h := Option.some.inj h
    subst h
    exact (And.intro rfl (And.intro rfl (And.intro rfl trivial)))

theorem c_chain_source_next (p0 : chain_source) (p1 : Int) (r : (Int × Int × chain_source)) (h : chain_source_next p0 p1 = some r) : Contract Try.prog 77 [.ptr 0 0, .int .i64 p1] [[.lst 1 false (List.map (eI .i64) p0.draws_), .int .i64 p0.at_, .int .i64 p0.beyond_]] (.tup [.int .i64 r.1, .int .i64 r.2.1]) [[.lst 1 false (List.map (eI .i64) r.2.2.draws_), .int .i64 r.2.2.at_, .int .i64 r.2.2.beyond_]] := by
  refine contract_of_vcs tab_ok orders_ok Try.func77 Try.call77 (by kernel_rfl) 1 rfl rfl _ rfl ?_
  delta chain_source_next at h
  obtain ⟨y1_9, e1_9, h⟩ := bS h
  refine Exists.intro _ (Exists.intro _ (And.intro (Contract.wk (c_draw_Next p0.draws_ p0.at_ p1 y1_9 e1_9) (And.intro ff (And.intro rfl (And.intro rfl (And.intro rfl trivial))))) (And.intro rfl ?_)))
  refine And.intro (fun g1 => ?_) (fun g1 => ?_)
  · skip
    replace h := cT g1 h
    refine Exists.intro [.int .i64 (p0.draws_.length : Int)] (And.intro (lenS (eI .i64) p0.draws_) ?_)
    refine Exists.intro none ?_
    refine And.intro (fun g2 => ?_) (fun g2 => ?_)
    · skip
      replace h := cT g2 h
      replace h := Option.some.inj h
      subst h
      exact (And.intro rfl (And.intro rfl (And.intro ff (And.intro rfl (And.intro rfl (And.intro rfl trivial))))))
    · skip
      replace h := cF g2 h
      replace h := Option.some.inj h
      subst h
      exact (And.intro rfl (And.intro rfl (And.intro ff (And.intro rfl (And.intro rfl (And.intro rfl trivial))))))
  · skip
    replace h := cF g1 h
    replace h := Option.some.inj h
    subst h
    exact (And.intro rfl (And.intro rfl (And.intro ff (And.intro rfl (And.intro rfl (And.intro rfl trivial))))))

theorem c_chain_add (p0 : api_Chain) (p1 : Int) (p2 : chain_source) (r : (api_Chain × Int × chain_source)) (h : chain_add p0 p1 p2 = some r) : Contract Try.prog 70 [.agg [.int .i64 p0.W, .int .i64 p0.Cap, .int .i64 p0.I, .int .i64 p0.Next, .lst 2 false (List.map enc_api_Link p0.Links)], .int .i64 p1, .ptr 0 0] [[.lst 1 false (List.map (eI .i64) p2.draws_), .int .i64 p2.at_, .int .i64 p2.beyond_]] (.tup [.agg [.int .i64 r.1.W, .int .i64 r.1.Cap, .int .i64 r.1.I, .int .i64 r.1.Next, .lst 2 false (List.map enc_api_Link r.1.Links)], .int .i64 r.2.1]) [[.lst 1 false (List.map (eI .i64) r.2.2.draws_), .int .i64 r.2.2.at_, .int .i64 r.2.2.beyond_]] := by
  refine contract_of_vcs tab_ok orders_ok Try.func70 Try.call70 (by kernel_rfl) 1 rfl rfl _ rfl ?_
  delta chain_add at h
  refine Exists.intro none ?_
  refine And.intro (fun g1 => ?_) (fun g1 => ?_)
  · skip
    refine And.intro (fun g2 => ?_) (fun g2 => ?_)
    · skip
      replace h := cT (oR g1 g2) h
      replace h := Option.some.inj h
      subst h
      exact (And.intro rfl (And.intro rfl (And.intro rfl (And.intro rfl (And.intro rfl (And.intro rfl (And.intro ff (And.intro rfl (And.intro rfl (And.intro rfl trivial))))))))))
    · skip
      replace h := cF (oR g1 g2) h
      refine And.intro (fun g3 => ?_) (fun g3 => ?_)
      · skip
        replace h := cT g3 h
        replace h := Option.some.inj h
        subst h
        exact (And.intro rfl (And.intro rfl (And.intro rfl (And.intro rfl (And.intro rfl (And.intro rfl (And.intro ff (And.intro rfl (And.intro rfl (And.intro rfl trivial))))))))))
      · skip
        replace h := cF g3 h
        refine And.intro (fun g4 => ?_) (fun g4 => ?_)
        · skip
          replace h := cT g4 h
          replace h := Option.some.inj h
          subst h
          exact (And.intro rfl (And.intro rfl (And.intro rfl (And.intro rfl (And.intro rfl (And.intro rfl (And.intro ff (And.intro rfl (And.intro rfl (And.intro rfl trivial))))))))))
        · skip
          replace h := cF g4 h
          obtain ⟨k8_3, h⟩ := ckS h
          refine And.intro (by have hh := (of_decide_eq_true k8_3); (try simp only [fixRows_length, List.length_map, List.length_append, List.length_take, List.length_drop, List.length_set, List.length_replicate, List.length_cons, List.length_nil] at hh); (try simp only [fixRows_length, List.length_map, List.length_append, List.length_take, List.length_drop, List.length_set, List.length_replicate, List.length_cons, List.length_nil]); omega) ?_
          obtain ⟨x10_5, e10_5, h⟩ := bS h
          obtain ⟨x10_7, e10_7, h⟩ := bS h
          refine Exists.intro (some (⟨Unit, fun _ => [(.tmp 1, .av (.int .i64 p1)), (.tmp 2, .av (.ptr 0 0)), (.tmp 3, .av (.ptr 1 0)), (.tmp 6, .av (.ptr 2 0)), (.tmp 8, .av (.int .i64 (w64 (p0.I + (1:Int))))), (.tmp 9, .av (.own 1284)), (.tmp 10, .av (.sb (p0.Next == (w64 (p0.I + (1:Int)))))), (.tmp 59, .av (.sb ((decide (((([] : List api_Link) ++ p0.Links).length : Int) > (0:Int))) && (x10_7.I == (w64 ((w64 (p0.I + (1:Int))) - p0.W)))))), (.box 0, .box [.lst 1 false (List.map (eI .i64) p2.draws_), .int .i64 p2.at_, .int .i64 p2.beyond_]), (.box 1, .box [.int .i64 p0.W, .int .i64 p0.Cap, .int .i64 p0.I, .int .i64 p0.Next, .lst 2 false (List.map enc_api_Link p0.Links)]), (.box 2, .box [.int .i64 (0:Int), .int .i64 (0:Int), .int .i64 (0:Int), .int .i64 (0:Int), .nilS]), (.tok 1284, .tok 71 2 (List.map enc_api_Link (([] : List api_Link) ++ p0.Links)))], fun _ => True, fun _ => 0⟩, 1000000)) (And.intro ?_ (fun _ _ => ?_))
          · skip
            refine Exists.intro [.int .i64 ((([] : List api_Link) ++ p0.Links).length : Int)] (And.intro (lenC (by simp only [fixRows_length, List.length_map, List.length_append, List.length_take, List.length_drop, List.length_set, List.length_replicate, List.length_cons, List.length_nil])) ?_)
            refine And.intro (fun g5 => ?_) (fun g5 => ?_)
            · skip
              refine And.intro (by have hh := idx_lt enc_api_Link (gdT g5 e10_5); (try simp only [fixRows_length, List.length_map, List.length_append, List.length_take, List.length_drop, List.length_set, List.length_replicate, List.length_cons, List.length_nil] at hh); (try simp only [fixRows_length, List.length_map, List.length_append, List.length_take, List.length_drop, List.length_set, List.length_replicate, List.length_cons, List.length_nil]); exact hh) ?_
              refine Exists.intro [.int .i64 x10_7.I, .int .i64 x10_7.V] (And.intro (by have hh := idx_elt enc_api_Link (gdT g5 e10_7); simp only [List.map_append, List.map_cons, List.map_nil, List.map_take, List.map_drop, List.map_set, List.map_replicate] at hh; exact hh) ?_)
              exact Exists.intro [] (Exists.intro [] (Exists.intro () (And.intro trivial (And.intro rfl (And.intro rfl (And.intro rfl (And.intro rfl (And.intro (Eq.symm (aR g5 rfl)) (And.intro ff (And.intro rfl (And.intro rfl (And.intro rfl (And.intro rfl (And.intro rfl (And.intro rfl (And.intro rfl (And.intro ff (And.intro rfl (And.intro rfl (And.intro rfl (And.intro rfl (And.intro rfl (And.intro (by first | rfl | (simp only [List.map_append, List.map_cons, List.map_nil, List.map_take, List.map_drop, List.map_set, List.map_replicate]; done) | (simp only [List.map_append, List.map_cons, List.map_nil, List.map_take, List.map_drop, List.map_set, List.map_replicate]; rfl) | (simp only [List.map_append, List.map_cons, List.map_nil, List.map_take, List.map_drop, List.map_set, List.map_replicate, eL, enc_api_Recent, enc_api_Chain, enc_chain_source, enc_made_Tape, enc_law18_leaf]; done) | (simp only [List.map_append, List.map_cons, List.map_nil, List.map_take, List.map_drop, List.map_set, List.map_replicate, eL, enc_api_Recent, enc_api_Chain, enc_chain_source, enc_made_Tape, enc_law18_leaf]; rfl)) trivial)))))))))))))))))))))))
            · skip
              exact Exists.intro [] (Exists.intro [] (Exists.intro () (And.intro trivial (And.intro rfl (And.intro rfl (And.intro rfl (And.intro rfl (And.intro (Eq.symm (aL g5)) (And.intro ff (And.intro rfl (And.intro rfl (And.intro rfl (And.intro rfl (And.intro rfl (And.intro rfl (And.intro rfl (And.intro ff (And.intro rfl (And.intro rfl (And.intro rfl (And.intro rfl (And.intro rfl (And.intro (by first | rfl | (simp only [List.map_append, List.map_cons, List.map_nil, List.map_take, List.map_drop, List.map_set, List.map_replicate]; done) | (simp only [List.map_append, List.map_cons, List.map_nil, List.map_take, List.map_drop, List.map_set, List.map_replicate]; rfl) | (simp only [List.map_append, List.map_cons, List.map_nil, List.map_take, List.map_drop, List.map_set, List.map_replicate, eL, enc_api_Recent, enc_api_Chain, enc_chain_source, enc_made_Tape, enc_law18_leaf]; done) | (simp only [List.map_append, List.map_cons, List.map_nil, List.map_take, List.map_drop, List.map_set, List.map_replicate, eL, enc_api_Recent, enc_api_Chain, enc_chain_source, enc_made_Tape, enc_law18_leaf]; rfl)) trivial)))))))))))))))))))))))
          · skip
            refine Exists.intro (some (⟨(List api_Link) × Bool × (List Int) × Int × Int, fun q => [(.tmp 1, .av (.int .i64 p1)), (.tmp 2, .av (.ptr 0 0)), (.tmp 3, .av (.ptr 1 0)), (.tmp 6, .av (.ptr 2 0)), (.tmp 8, .av (.int .i64 (w64 (p0.I + (1:Int))))), (.tmp 9, .av (.own 1999999)), (.tmp 10, .av (.sb q.2.1)), (.box 0, .box [.lst 1 false (List.map (eI .i64) q.2.2.1), .int .i64 q.2.2.2.1, .int .i64 q.2.2.2.2]), (.box 1, .box [.int .i64 p0.W, .int .i64 p0.Cap, .int .i64 p0.I, .int .i64 p0.Next, .lst 2 false (List.map enc_api_Link p0.Links)]), (.box 2, .box [.int .i64 (0:Int), .int .i64 (0:Int), .int .i64 (0:Int), .int .i64 (0:Int), .nilS]), (.tok 1999999, .tok 71 2 (List.map enc_api_Link q.1))], fun q => chain_add_j5 p0 p1 q.1 q.2.1 q.2.2.1 q.2.2.2.1 q.2.2.2.2 = some r, fun _ => 0⟩, 2000000)) (And.intro ?_ ?_)
            · skip
              refine And.intro (fun g6 => ?_) (fun g6 => ?_)
              · skip
                replace h := cT g6 h
                obtain ⟨k11_1, h⟩ := ckS h
                refine And.intro (by have hh := (of_decide_eq_true k11_1); (try simp only [fixRows_length, List.length_map, List.length_append, List.length_take, List.length_drop, List.length_set, List.length_replicate, List.length_cons, List.length_nil] at hh); (try simp only [fixRows_length, List.length_map, List.length_append, List.length_take, List.length_drop, List.length_set, List.length_replicate, List.length_cons, List.length_nil]); omega) ?_
                exact Exists.intro [(1999999, some 1000001)] (Exists.intro [] (Exists.intro (((([] : List api_Link) ++ p0.Links).drop ((1:Int)).toNat), (p0.Next == (w64 (p0.I + (1:Int)))), p2.draws_, p2.at_, p2.beyond_) (And.intro h (And.intro rfl (And.intro rfl (And.intro rfl (And.intro rfl (And.intro ff (And.intro rfl (And.intro rfl (And.intro rfl (And.intro rfl (And.intro rfl (And.intro rfl (And.intro rfl (And.intro ff (And.intro rfl (And.intro rfl (And.intro rfl (And.intro rfl (And.intro rfl (And.intro (by first | rfl | (simp only [List.map_append, List.map_cons, List.map_nil, List.map_take, List.map_drop, List.map_set, List.map_replicate]; done) | (simp only [List.map_append, List.map_cons, List.map_nil, List.map_take, List.map_drop, List.map_set, List.map_replicate]; rfl) | (simp only [List.map_append, List.map_cons, List.map_nil, List.map_take, List.map_drop, List.map_set, List.map_replicate, eL, enc_api_Recent, enc_api_Chain, enc_chain_source, enc_made_Tape, enc_law18_leaf]; done) | (simp only [List.map_append, List.map_cons, List.map_nil, List.map_take, List.map_drop, List.map_set, List.map_replicate, eL, enc_api_Recent, enc_api_Chain, enc_chain_source, enc_made_Tape, enc_law18_leaf]; rfl)) trivial))))))))))))))))))))))
              · skip
                replace h := cF g6 h
                obtain ⟨y12_5, e12_5, h⟩ := bS h
                refine Exists.intro _ (Exists.intro _ (And.intro (Contract.wk (c_chain_source_next p2 (imin (w64 (p0.I + (1:Int))) p0.W) y12_5 e12_5) (And.intro rfl (And.intro ff (And.intro rfl (And.intro rfl (And.intro rfl trivial)))))) (And.intro rfl ?_)))
                refine And.intro (fun g7 => ?_) (fun g7 => ?_)
                · skip
                  replace h := cT g7 h
                  replace h := Option.some.inj h
                  subst h
                  exact (And.intro rfl (And.intro rfl (And.intro rfl (And.intro rfl (And.intro rfl (And.intro rfl (And.intro ff (And.intro rfl (And.intro rfl (And.intro rfl trivial))))))))))
                · skip
                  replace h := cF g7 h
                  refine Exists.intro none ?_
                  refine And.intro (fun g8 => ?_) (fun g8 => ?_)
                  · skip
                    replace h := cT g8 h
                    exact Exists.intro [(1999999, none)] (Exists.intro [] (Exists.intro (([] : List api_Link), true, y12_5.2.2.draws_, y12_5.2.2.at_, y12_5.2.2.beyond_) (And.intro h (And.intro rfl (And.intro rfl (And.intro rfl (And.intro rfl (And.intro ff (And.intro rfl (And.intro rfl (And.intro rfl (And.intro rfl (And.intro rfl (And.intro rfl (And.intro rfl (And.intro ff (And.intro rfl (And.intro rfl (And.intro rfl (And.intro rfl (And.intro rfl (And.intro rfl trivial))))))))))))))))))))))
                  · skip
                    replace h := cF g8 h
                    exact Exists.intro [(1999999, some 1284)] (Exists.intro [] (Exists.intro ((([] : List api_Link) ++ p0.Links), (p0.Next == (w64 (p0.I + (1:Int)))), y12_5.2.2.draws_, y12_5.2.2.at_, y12_5.2.2.beyond_) (And.intro h (And.intro rfl (And.intro rfl (And.intro rfl (And.intro rfl (And.intro ff (And.intro rfl (And.intro rfl (And.intro rfl (And.intro rfl (And.intro rfl (And.intro rfl (And.intro rfl (And.intro ff (And.intro rfl (And.intro rfl (And.intro rfl (And.intro rfl (And.intro rfl (And.intro rfl trivial))))))))))))))))))))))
            · skip
              clear h
              refine fun q h => ?_
              obtain ⟨j5_9, j5_10, j5_b0_0, j5_b0_1, j5_b0_2⟩ := q
              replace h : chain_add_j5 p0 p1 j5_9 j5_10 j5_b0_0 j5_b0_1 j5_b0_2 = some r := h
              delta chain_add_j5 at h
              refine Exists.intro (some (⟨(List api_Link) × (List Int) × Int × Int × Int, fun q => [(.tmp 3, .av (.ptr 1 0)), (.tmp 6, .av (.ptr 2 0)), (.tmp 8, .av (.int .i64 (w64 (p0.I + (1:Int))))), (.tmp 9, .av (.own 2999999)), (.box 0, .box [.lst 1 false (List.map (eI .i64) q.2.1), .int .i64 q.2.2.1, .int .i64 q.2.2.2.1]), (.box 1, .box [.int .i64 p0.W, .int .i64 p0.Cap, .int .i64 p0.I, .int .i64 q.2.2.2.2, .lst 2 false (List.map enc_api_Link p0.Links)]), (.box 2, .box [.int .i64 (0:Int), .int .i64 (0:Int), .int .i64 (0:Int), .int .i64 (0:Int), .nilS]), (.tok 2999999, .tok 71 2 (List.map enc_api_Link q.1))], fun q => chain_add_j8 p0 q.1 q.2.1 q.2.2.1 q.2.2.2.1 q.2.2.2.2 = some r, fun _ => 0⟩, 3000000)) (And.intro ?_ ?_)
              · skip
                refine And.intro (fun g9 => ?_) (fun g9 => ?_)
                · skip
                  replace h := cT g9 h
                  refine Exists.intro [.int .i64 (j5_9.length : Int)] (And.intro (lenS enc_api_Link j5_9) ?_)
                  refine And.intro (fun g10 => ?_) (fun g10 => ?_)
                  · skip
                    replace h := cT g10 h
                    replace h := Option.some.inj h
                    subst h
                    exact (And.intro rfl (And.intro rfl (And.intro rfl (And.intro rfl (And.intro rfl (And.intro rfl (And.intro ff (And.intro rfl (And.intro rfl (And.intro rfl trivial))))))))))
                  · skip
                    replace h := cF g10 h
                    obtain ⟨k20_5, h⟩ := ckS h
                    refine And.intro (by have hh := (of_decide_eq_true k20_5); (try simp only [fixRows_length, List.length_map, List.length_append, List.length_take, List.length_drop, List.length_set, List.length_replicate, List.length_cons, List.length_nil] at hh); (try simp only [fixRows_length, List.length_map, List.length_append, List.length_take, List.length_drop, List.length_set, List.length_replicate, List.length_cons, List.length_nil]); omega) ?_
                    obtain ⟨y21_3, e21_3, h⟩ := bS h
                    refine Exists.intro _ (Exists.intro _ (And.intro (Contract.wk (c_chain_source_next (chain_source.mk j5_b0_0 j5_b0_1 j5_b0_2) p0.W y21_3 e21_3) (And.intro rfl (And.intro ff (And.intro rfl (And.intro rfl (And.intro rfl trivial)))))) (And.intro rfl ?_)))
                    refine And.intro (fun g11 => ?_) (fun g11 => ?_)
                    · skip
                      replace h := cT g11 h
                      replace h := Option.some.inj h
                      subst h
                      exact (And.intro rfl (And.intro rfl (And.intro rfl (And.intro rfl (And.intro rfl (And.intro rfl (And.intro ff (And.intro rfl (And.intro rfl (And.intro rfl trivial))))))))))
                    · skip
                      replace h := cF g11 h
                      exact Exists.intro [(2999999, some 2000517)] (Exists.intro [] (Exists.intro ((j5_9 ++ [(api_Link.mk (w64 (p0.I + (1:Int))) p1)]), y21_3.2.2.draws_, y21_3.2.2.at_, y21_3.2.2.beyond_, (w64 ((w64 ((w64 (p0.I + (1:Int))) + (1:Int))) + y21_3.1))) (And.intro h (And.intro rfl (And.intro rfl (And.intro ff (And.intro rfl (And.intro rfl (And.intro rfl (And.intro rfl (And.intro rfl (And.intro rfl (And.intro rfl (And.intro ff (And.intro rfl (And.intro rfl (And.intro rfl (And.intro rfl (And.intro rfl (And.intro (by first | rfl | (simp only [List.map_append, List.map_cons, List.map_nil, List.map_take, List.map_drop, List.map_set, List.map_replicate]; done) | (simp only [List.map_append, List.map_cons, List.map_nil, List.map_take, List.map_drop, List.map_set, List.map_replicate]; rfl) | (simp only [List.map_append, List.map_cons, List.map_nil, List.map_take, List.map_drop, List.map_set, List.map_replicate, eL, enc_api_Recent, enc_api_Chain, enc_chain_source, enc_made_Tape, enc_law18_leaf]; done) | (simp only [List.map_append, List.map_cons, List.map_nil, List.map_take, List.map_drop, List.map_set, List.map_replicate, eL, enc_api_Recent, enc_api_Chain, enc_chain_source, enc_made_Tape, enc_law18_leaf]; rfl)) trivial))))))))))))))))))))
                · skip
                  replace h := cF g9 h
                  exact Exists.intro [(2999999, some 1999999)] (Exists.intro [] (Exists.intro (j5_9, j5_b0_0, j5_b0_1, j5_b0_2, p0.Next) (And.intro h (And.intro rfl (And.intro rfl (And.intro ff (And.intro rfl (And.intro rfl (And.intro rfl (And.intro rfl (And.intro rfl (And.intro rfl (And.intro rfl (And.intro ff (And.intro rfl (And.intro rfl (And.intro rfl (And.intro rfl (And.intro rfl (And.intro rfl trivial))))))))))))))))))))
              · skip
                clear h
                refine fun q h => ?_
                obtain ⟨j8_9, j8_b0_0, j8_b0_1, j8_b0_2, j8_b1_3⟩ := q
                replace h : chain_add_j8 p0 j8_9 j8_b0_0 j8_b0_1 j8_b0_2 j8_b1_3 = some r := h
                delta chain_add_j8 at h
                replace h := Option.some.inj h
                subst h
                exact (And.intro rfl (And.intro rfl (And.intro rfl (And.intro rfl (And.intro ff (And.intro rfl (And.intro rfl (And.intro ff (And.intro rfl (And.intro rfl (And.intro rfl trivial)))))))))))
  · skip
    replace h := cT (oL g1) h
    replace h := Option.some.inj h
    subst h
    exact (And.intro rfl (And.intro rfl (And.intro rfl (And.intro rfl (And.intro rfl (And.intro rfl (And.intro ff (And.intro rfl (And.intro rfl (And.intro rfl trivial))))))))))

theorem c_chain_Add (p0 : api_Chain) (p1 : Int) (p2 : (List Int)) (p3 : Int) (r : (api_Chain × Int × Int)) (h : chain_Add p0 p1 p2 p3 = some r) : Contract Try.prog 47 [.agg [.int .i64 p0.W, .int .i64 p0.Cap, .int .i64 p0.I, .int .i64 p0.Next, .lst 2 false (List.map enc_api_Link p0.Links)], .int .i64 p1, .lst 1 false (List.map (eI .i64) p2), .int .i64 p3] [] (.tup [.agg [.int .i64 r.1.W, .int .i64 r.1.Cap, .int .i64 r.1.I, .int .i64 r.1.Next, .lst 2 false (List.map enc_api_Link r.1.Links)], .int .i64 r.2.1, .int .i64 r.2.2]) [] := by
  refine contract_of_vcs tab_ok orders_ok Try.func47 Try.call47 (by kernel_rfl) 0 rfl rfl _ rfl ?_
  delta chain_Add at h
  obtain ⟨y1_1, e1_1, h⟩ := bS h
  refine Exists.intro _ (Exists.intro _ (And.intro (Contract.wk (c_chain_Validate p0 y1_1 e1_1) (And.intro rfl (And.intro rfl (And.intro rfl (And.intro rfl (And.intro ff (And.intro rfl trivial))))))) (And.intro rfl ?_)))
  refine And.intro (fun g1 => ?_) (fun g1 => ?_)
  · skip
    replace h := cT g1 h
    replace h := Option.some.inj h
    subst h
    exact (And.intro rfl (And.intro rfl (And.intro rfl (And.intro rfl (And.intro rfl (And.intro rfl (And.intro rfl trivial)))))))
  · skip
    replace h := cF g1 h
    obtain ⟨y5_3, e5_3, h⟩ := bS h
    refine Exists.intro _ (Exists.intro _ (And.intro (Contract.wk (c_chain_add p0 p1 (chain_source.mk p2 p3 (0:Int)) y5_3 e5_3) (And.intro rfl (And.intro rfl (And.intro rfl (And.intro rfl (And.intro ff (And.intro rfl (And.intro rfl (And.intro ff (And.intro rfl (And.intro rfl (And.intro rfl trivial)))))))))))) (And.intro rfl ?_)))
    refine And.intro (fun g2 => ?_) (fun g2 => ?_)
    · skip
      replace h := cT g2 h
      replace h := Option.some.inj h
      subst h
      exact (And.intro rfl (And.intro rfl (And.intro rfl (And.intro rfl (And.intro rfl (And.intro rfl (And.intro rfl trivial)))))))
    · skip
      replace h := cF g2 h
      replace h := Option.some.inj h
      subst h
      exact (And.intro rfl (And.intro rfl (And.intro rfl (And.intro rfl (And.intro ff (And.intro rfl (And.intro rfl (And.intro rfl trivial))))))))

theorem c_chain_Ask (p0 : api_Chain) (r : (Int × Int)) (h : chain_Ask p0 = some r) : Contract Try.prog 43 [.agg [.int .i64 p0.W, .int .i64 p0.Cap, .int .i64 p0.I, .int .i64 p0.Next, .lst 2 false (List.map enc_api_Link p0.Links)]] [] (.tup [.int .i64 r.1, .int .i64 r.2]) [] := by
  refine contract_of_vcs tab_ok orders_ok Try.func43 Try.call43 (by kernel_rfl) 0 rfl rfl _ rfl ?_
  delta chain_Ask at h
  obtain ⟨y1_1, e1_1, h⟩ := bS h
  refine Exists.intro _ (Exists.intro _ (And.intro (Contract.wk (c_chain_Validate p0 y1_1 e1_1) (And.intro rfl (And.intro rfl (And.intro rfl (And.intro rfl (And.intro ff (And.intro rfl trivial))))))) (And.intro rfl ?_)))
  refine And.intro (fun g1 => ?_) (fun g1 => ?_)
  · skip
    replace h := cT g1 h
    replace h := Option.some.inj h
    subst h
    exact (And.intro rfl (And.intro rfl trivial))
  · skip
    replace h := cF g1 h
    refine Exists.intro [.int .i64 (p0.Links.length : Int)] (And.intro (lenS enc_api_Link p0.Links) ?_)
    refine And.intro (fun g2 => ?_) (fun g2 => ?_)
    · skip
      replace h := cT g2 h
      replace h := Option.some.inj h
      subst h
      exact (And.intro rfl (And.intro rfl trivial))
    · skip
      replace h := cF g2 h
      obtain ⟨x6_2, e6_2, h⟩ := bS h
      refine Exists.intro [.int .i64 x6_2.I, .int .i64 x6_2.V] (And.intro (idx_map enc_api_Link e6_2) ?_)
      replace h := Option.some.inj h
      subst h
      exact (And.intro rfl (And.intro rfl trivial))

theorem c_law18_awake (r : Bool) (h : law18_awake = some r) : Contract Try.prog 41 [] [] (.sb r) [] := by
  refine contract_of_vcs tab_ok orders_ok Try.func41 Try.call41 (by kernel_rfl) 0 rfl rfl _ rfl ?_
  delta law18_awake at h
  refine Exists.intro _ (Exists.intro _ (And.intro (Contract.wk (c_chain_New (2:Int) (5:Int)) (And.intro rfl (And.intro rfl trivial))) (And.intro rfl ?_)))
  obtain ⟨y2_2, e2_2, h⟩ := bS h
  refine Exists.intro _ (Exists.intro _ (And.intro (Contract.wk (c_chain_Add (chain_New (2:Int) (5:Int)).1 (7:Int) [(0:Int), (1:Int)] (0:Int) y2_2 e2_2) (And.intro rfl (And.intro rfl (And.intro rfl (And.intro rfl (And.intro ff (And.intro rfl (And.intro rfl (And.intro ff (And.intro (by first | rfl | (simp only [List.map_append, List.map_cons, List.map_nil, List.map_take, List.map_drop, List.map_set, List.map_replicate]; done) | (simp only [List.map_append, List.map_cons, List.map_nil, List.map_take, List.map_drop, List.map_set, List.map_replicate]; rfl) | (simp only [List.map_append, List.map_cons, List.map_nil, List.map_take, List.map_drop, List.map_set, List.map_replicate, eL, enc_api_Recent, enc_api_Chain, enc_chain_source, enc_made_Tape, enc_law18_leaf]; done) | (simp only [List.map_append, List.map_cons, List.map_nil, List.map_take, List.map_drop, List.map_set, List.map_replicate, eL, enc_api_Recent, enc_api_Chain, enc_chain_source, enc_made_Tape, enc_law18_leaf]; rfl)) (And.intro rfl trivial))))))))))) (And.intro rfl ?_)))
  obtain ⟨y3_1, e3_1, h⟩ := bS h
  refine Exists.intro _ (Exists.intro _ (And.intro (Contract.wk (c_chain_Ask y2_2.1 y3_1 e3_1) (And.intro rfl (And.intro rfl (And.intro rfl (And.intro rfl (And.intro ff (And.intro rfl trivial))))))) (And.intro rfl ?_)))
  refine Exists.intro none ?_
  refine And.intro (fun g1 => ?_) (fun g1 => ?_)
  · skip
    refine And.intro (fun g2 => ?_) (fun g2 => ?_)
    · skip
      refine And.intro (fun g3 => ?_) (fun g3 => ?_)
      · skip
        refine And.intro (fun g4 => ?_) (fun g4 => ?_)
        · skip
          refine And.intro (fun g5 => ?_) (fun g5 => ?_)
          · skip
            replace h := Option.some.inj h
            subst h
            exact (And.intro (Eq.symm (aR (aR (aR (aR (aR g1 g2) g3) g4) g5) rfl)) trivial)
          · skip
            replace h := Option.some.inj h
            subst h
            exact (And.intro (Eq.symm (aL (aR (aR (aR (aR g1 g2) g3) g4) g5))) trivial)
        · skip
          replace h := Option.some.inj h
          subst h
          exact (And.intro (Eq.symm (aL (aL (aR (aR (aR g1 g2) g3) g4)))) trivial)
      · skip
        replace h := Option.some.inj h
        subst h
        exact (And.intro (Eq.symm (aL (aL (aL (aR (aR g1 g2) g3))))) trivial)
    · skip
      replace h := Option.some.inj h
      subst h
      exact (And.intro (Eq.symm (aL (aL (aL (aL (aR g1 g2)))))) trivial)
  · skip
    replace h := Option.some.inj h
    subst h
    exact (And.intro (Eq.symm (aL (aL (aL (aL (aL g1)))))) trivial)

theorem c_law18_few' (p0 : api_Chain) (r : Bool) (h : law18_few p0 = r) : Contract Try.prog 42 [.agg [.int .i64 p0.W, .int .i64 p0.Cap, .int .i64 p0.I, .int .i64 p0.Next, .lst 2 false (List.map enc_api_Link p0.Links)]] [] (.sb r) [] := by
  refine contract_of_vcs tab_ok orders_ok Try.func42 Try.call42 (by kernel_rfl) 0 rfl rfl _ rfl ?_
  delta law18_few at h
  refine Exists.intro [.int .i64 (p0.Links.length : Int)] (And.intro (lenS enc_api_Link p0.Links) ?_)
  subst h
  exact (And.intro rfl trivial)
theorem c_law18_few (p0 : api_Chain) : Contract Try.prog 42 [.agg [.int .i64 p0.W, .int .i64 p0.Cap, .int .i64 p0.I, .int .i64 p0.Next, .lst 2 false (List.map enc_api_Link p0.Links)]] [] (.sb (law18_few p0)) [] := c_law18_few' p0 (law18_few p0) rfl

theorem c_law18_ChainWastes (p0 : api_Chain) (p1 : Int) (p2 : (List Int)) (p3 : (List Int)) (r : Bool) (h : law18_ChainWastes p0 p1 p2 p3 = some r) : Contract Try.prog 10 [.agg [.int .i64 p0.W, .int .i64 p0.Cap, .int .i64 p0.I, .int .i64 p0.Next, .lst 2 false (List.map enc_api_Link p0.Links)], .int .i64 p1, .lst 1 false (List.map (eI .i64) p2), .lst 1 false (List.map (eI .i64) p3)] [] (.sb r) [] := by
  refine contract_of_vcs tab_ok orders_ok Try.func10 Try.call10 (by kernel_rfl) 0 rfl rfl _ rfl ?_
  delta law18_ChainWastes at h
  refine Exists.intro _ (Exists.intro _ (And.intro (Contract.wk (c_law18_few p0) (And.intro rfl (And.intro rfl (And.intro rfl (And.intro rfl (And.intro ff (And.intro rfl trivial))))))) (And.intro rfl ?_)))
  refine And.intro (fun g1 => ?_) (fun g1 => ?_)
  · skip
    replace h := cT g1 h
    obtain ⟨y2_0, e2_0, h⟩ := bS h
    refine Exists.intro _ (Exists.intro _ (And.intro (Contract.wk (c_law18_awake y2_0 e2_0) trivial) (And.intro rfl ?_)))
    replace h := Option.some.inj h
    subst h
    exact (And.intro rfl trivial)
  · skip
    replace h := cF g1 h
    obtain ⟨y3_3, e3_3, h⟩ := bS h
    refine Exists.intro _ (Exists.intro _ (And.intro (Contract.wk (c_chain_Add p0 p1 p2 (0:Int) y3_3 e3_3) (And.intro rfl (And.intro rfl (And.intro rfl (And.intro rfl (And.intro ff (And.intro rfl (And.intro rfl (And.intro ff (And.intro rfl (And.intro rfl trivial))))))))))) (And.intro rfl ?_)))
    obtain ⟨k4_4, h⟩ := ckS h
    obtain ⟨k4_6, h⟩ := ckS h
    obtain ⟨y4_7, e4_7, h⟩ := bS h
    refine And.intro (by have hh := (of_decide_eq_true k4_4); (try simp only [fixRows_length, List.length_map, List.length_append, List.length_take, List.length_drop, List.length_set, List.length_replicate, List.length_cons, List.length_nil] at hh); (try simp only [fixRows_length, List.length_map, List.length_append, List.length_take, List.length_drop, List.length_set, List.length_replicate, List.length_cons, List.length_nil]); omega) ?_
    refine And.intro (by have hh := (of_decide_eq_true k4_6); (try simp only [fixRows_length, List.length_map, List.length_append, List.length_take, List.length_drop, List.length_set, List.length_replicate, List.length_cons, List.length_nil] at hh); (try simp only [fixRows_length, List.length_map, List.length_append, List.length_take, List.length_drop, List.length_set, List.length_replicate, List.length_cons, List.length_nil]); omega) ?_
    refine Exists.intro _ (Exists.intro _ (And.intro (Contract.wk (c_chain_Add p0 p1 ((([] : List Int) ++ p2) ++ p3) (0:Int) y4_7 e4_7) (And.intro rfl (And.intro rfl (And.intro rfl (And.intro rfl (And.intro ff (And.intro rfl (And.intro rfl (And.intro ff (And.intro (by first | rfl | (simp only [List.map_append, List.map_cons, List.map_nil, List.map_take, List.map_drop, List.map_set, List.map_replicate]; done) | (simp only [List.map_append, List.map_cons, List.map_nil, List.map_take, List.map_drop, List.map_set, List.map_replicate]; rfl) | (simp only [List.map_append, List.map_cons, List.map_nil, List.map_take, List.map_drop, List.map_set, List.map_replicate, eL, enc_api_Recent, enc_api_Chain, enc_chain_source, enc_made_Tape, enc_law18_leaf]; done) | (simp only [List.map_append, List.map_cons, List.map_nil, List.map_take, List.map_drop, List.map_set, List.map_replicate, eL, enc_api_Recent, enc_api_Chain, enc_chain_source, enc_made_Tape, enc_law18_leaf]; rfl)) (And.intro rfl trivial))))))))))) (And.intro rfl ?_)))
    obtain ⟨y5_13, e5_13, h⟩ := bS h
    obtain ⟨y5_17, e5_17, h⟩ := bS h
    refine Exists.intro none ?_
    refine And.intro (fun g2 => ?_) (fun g2 => ?_)
    · skip
      refine And.intro (fun g3 => ?_) (fun g3 => ?_)
      · skip
        refine And.intro (fun g4 => ?_) (fun g4 => ?_)
        · skip
          refine Exists.intro _ (Exists.intro _ (And.intro (Contract.wk (c_ref18_Same y3_3.1 y4_7.1 y5_13 (gdT (aR (nE g2) (aR g3 g4)) e5_13)) (And.intro rfl (And.intro rfl (And.intro rfl (And.intro rfl (And.intro ff (And.intro rfl (And.intro rfl (And.intro rfl (And.intro rfl (And.intro rfl (And.intro ff (And.intro rfl trivial))))))))))))) (And.intro rfl ?_)))
          refine And.intro (fun g5 => ?_) (fun g5 => ?_)
          · skip
            refine Exists.intro _ (Exists.intro _ (And.intro (Contract.wk (c_law18_awake y5_17 (gdT (oR g2 (aR (aR g3 g4) g5)) e5_17)) trivial) (And.intro rfl ?_)))
            replace h := Option.some.inj h
            subst h
            exact (And.intro (Eq.symm (aR (oR g2 (aR (aR g3 g4) g5)) rfl)) trivial)
          · skip
            replace h := Option.some.inj h
            subst h
            exact (And.intro (Eq.symm (aL (oR g2 (aR (aR g3 g4) g5)))) trivial)
        · skip
          replace h := Option.some.inj h
          subst h
          exact (And.intro (Eq.symm (aL (oR g2 (aL (aR g3 g4))))) trivial)
      · skip
        replace h := Option.some.inj h
        subst h
        exact (And.intro (Eq.symm (aL (oR g2 (aL (aL g3))))) trivial)
    · skip
      refine Exists.intro _ (Exists.intro _ (And.intro (Contract.wk (c_law18_awake y5_17 (gdT (oL g2) e5_17)) trivial) (And.intro rfl ?_)))
      replace h := Option.some.inj h
      subst h
      exact (And.intro (Eq.symm (aR (oL g2) rfl)) trivial)

end Go.Proofs.Ytfnkbbeeilpiiaa
