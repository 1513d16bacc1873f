/- The contracts: each function of the program does what its function on plain data says. Made by program. -/
import Derived.Test.YtfnkbbeeilpiiaaTab
import Derived.Test.YtfnkbbeeilpiiaaWin
set_option linter.unusedVariables false
set_option linter.unusedSimpArgs false
set_option linter.unnecessarySimpa false
set_option maxHeartbeats 4000000
namespace Go.Proofs.Ytfnkbbeeilpiiaa
open Go.Vc Go.Dec Go.Win

theorem c_made_Mod (p0 : Int) (p1 : Int) (r : Int) (h : made_Mod p0 p1 = some r) : Contract Try.prog 29 [.int .i64 p0, .int .i64 p1] [] (.int .i64 r) [] := by
  refine contract_of_vcs tab_ok orders_ok Try.func29 Try.call29 (by kernel_rfl) 0 rfl rfl _ rfl ?_
  delta made_Mod at h
  refine Exists.intro none ?_
  refine Exists.intro none ?_
  obtain ⟨k1_2, h⟩ := ckS h
  refine And.intro (of_decide_eq_true k1_2) ?_
  refine Exists.intro none ?_
  refine And.intro (fun g1 => ?_) (fun g1 => ?_)
  · skip
    replace h := cT g1 h
    refine Exists.intro none ?_
    replace h := Option.some.inj h
    subst h
    exact (And.intro rfl trivial)
  · skip
    replace h := cF g1 h
    refine Exists.intro none ?_
    replace h := Option.some.inj h
    subst h
    exact (And.intro rfl trivial)

theorem c_chain_New' (p0 : Int) (p1 : Int) (r : (api_Chain × Int)) (h : chain_New p0 p1 = r) : Contract Try.prog 38 [.int .i64 p0, .int .i64 p1] [] (.tup [.agg [.int .i64 r.1.W, .int .i64 r.1.Cap, .int .i64 r.1.I, .int .i64 r.1.Next, .lst 2 false (List.map enc_api_Link r.1.Links)], .int .i64 r.2]) [] := by
  refine contract_of_vcs tab_ok orders_ok Try.func38 Try.call38 (by kernel_rfl) 0 rfl rfl _ rfl ?_
  delta chain_New at h
  refine Exists.intro none ?_
  refine Exists.intro none ?_
  refine Exists.intro none ?_
  refine And.intro (fun g1 => ?_) (fun g1 => ?_)
  · skip
    refine And.intro (fun g2 => ?_) (fun g2 => ?_)
    · skip
      refine And.intro (fun g3 => ?_) (fun g3 => ?_)
      · skip
        refine And.intro (fun g4 => ?_) (fun g4 => ?_)
        · skip
          replace h := cT (oR (oR (oR g1 g2) g3) g4) h
          refine Exists.intro none ?_
          subst h
          exact (And.intro rfl (And.intro rfl (And.intro rfl (And.intro rfl (And.intro rfl (And.intro rfl trivial))))))
        · skip
          replace h := cF (oR (oR (oR g1 g2) g3) g4) h
          refine Exists.intro none ?_
          subst h
          exact (And.intro rfl (And.intro rfl (And.intro rfl (And.intro rfl (And.intro rfl (And.intro rfl trivial))))))
      · skip
        replace h := cT (oL (oR (oR g1 g2) g3)) h
        refine Exists.intro none ?_
        subst h
        exact (And.intro rfl (And.intro rfl (And.intro rfl (And.intro rfl (And.intro rfl (And.intro rfl trivial))))))
    · skip
      replace h := cT (oL (oL (oR g1 g2))) h
      refine Exists.intro none ?_
      subst h
      exact (And.intro rfl (And.intro rfl (And.intro rfl (And.intro rfl (And.intro rfl (And.intro rfl trivial))))))
  · skip
    replace h := cT (oL (oL (oL g1))) h
    refine Exists.intro none ?_
    subst h
    exact (And.intro rfl (And.intro rfl (And.intro rfl (And.intro rfl (And.intro rfl (And.intro rfl trivial))))))
theorem c_chain_New (p0 : Int) (p1 : Int) : Contract Try.prog 38 [.int .i64 p0, .int .i64 p1] [] (.tup [.agg [.int .i64 (chain_New p0 p1).1.W, .int .i64 (chain_New p0 p1).1.Cap, .int .i64 (chain_New p0 p1).1.I, .int .i64 (chain_New p0 p1).1.Next, .lst 2 false (List.map enc_api_Link (chain_New p0 p1).1.Links)], .int .i64 (chain_New p0 p1).2]) [] := c_chain_New' p0 p1 (chain_New p0 p1) rfl

theorem c_ref18_Same (p0 : api_Chain) (p1 : api_Chain) (r : Bool) (h : ref18_Same p0 p1 = some r) : Contract Try.prog 40 [.agg [.int .i64 p0.W, .int .i64 p0.Cap, .int .i64 p0.I, .int .i64 p0.Next, .lst 2 false (List.map enc_api_Link p0.Links)], .agg [.int .i64 p1.W, .int .i64 p1.Cap, .int .i64 p1.I, .int .i64 p1.Next, .lst 2 false (List.map enc_api_Link p1.Links)]] [] (.sb r) [] := by
  refine contract_of_vcs tab_ok orders_ok Try.func40 Try.call40 (by kernel_rfl) 0 rfl rfl _ rfl ?_
  delta ref18_Same at h
  refine Exists.intro none ?_
  refine Exists.intro none ?_
  refine Exists.intro none ?_
  refine And.intro (fun g1 => ?_) (fun g1 => ?_)
  · skip
    refine And.intro (fun g2 => ?_) (fun g2 => ?_)
    · skip
      refine And.intro (fun g3 => ?_) (fun g3 => ?_)
      · skip
        refine And.intro (fun g4 => ?_) (fun g4 => ?_)
        · skip
          refine Exists.intro [.int .i64 (p0.Links.length : Int)] (And.intro (lenS enc_api_Link p0.Links) ?_)
          refine Exists.intro [.int .i64 (p1.Links.length : Int)] (And.intro (lenS enc_api_Link p1.Links) ?_)
          refine And.intro (fun g5 => ?_) (fun g5 => ?_)
          · skip
            replace h := cT (oR (oR (oR (oR g1 g2) g3) g4) g5) h
            refine Exists.intro none ?_
            replace h := Option.some.inj h
            subst h
            exact (And.intro rfl trivial)
          · skip
            replace h := cF (oR (oR (oR (oR g1 g2) g3) g4) g5) h
            refine Exists.intro none ?_
            refine Exists.intro [.int .i64 (p0.Links.length : Int)] (And.intro (lenS enc_api_Link p0.Links) ?_)
            replace h : ref18_Same_l3 p0 p1 (0:Int) = some r := h
            delta ref18_Same_l3 at h
            obtain ⟨n1, h⟩ := loopS h
            refine Exists.intro ⟨Int × Nat, fun q => [(.tmp 2, .av (.ptr 0 0)), (.tmp 3, .av (.ptr 1 0)), (.tmp 43, .av (.int .i64 (p0.Links.length : Int))), (.tmp 44, .av (.int .i64 q.1)), (.box 0, .box [.int .i64 p0.W, .int .i64 p0.Cap, .int .i64 p0.I, .int .i64 p0.Next, .lst 2 false (List.map enc_api_Link p0.Links)]), (.box 1, .box [.int .i64 p1.W, .int .i64 p1.Cap, .int .i64 p1.I, .int .i64 p1.Next, .lst 2 false (List.map enc_api_Link p1.Links)])], fun q => loopN (fun (s : Int) => ref18_Same_l3s p0 p1 s) q.2 q.1 = some r, fun q => q.2⟩ (And.intro (Exists.intro [] (Exists.intro [] (Exists.intro ((0:Int), n1) (And.intro h (And.intro rfl (And.intro rfl (And.intro rfl (And.intro rfl (And.intro rfl (And.intro rfl (And.intro rfl (And.intro ff (And.intro rfl (And.intro rfl (And.intro rfl (And.intro rfl (And.intro rfl (And.intro ff (And.intro rfl trivial))))))))))))))))))) ?_)
            clear h
            refine fun q h => ?_
            obtain ⟨v3_44, n1⟩ := q
            obtain ⟨m1, x1, hm1, h, hl1, hr1⟩ := loopN_step h
            replace hm1 : n1 = m1 + 1 := hm1
            subst hm1
            replace h : ref18_Same_l3s p0 p1 v3_44 = some x1 := h
            delta ref18_Same_l3s at h
            refine Exists.intro none ?_
            refine And.intro (fun g6 => ?_) (fun g6 => ?_)
            · skip
              replace h := cT g6 h
              refine Exists.intro none ?_
              refine Exists.intro none ?_
              obtain ⟨x6_3, e6_3, h⟩ := bS h
              obtain ⟨x6_8, e6_8, h⟩ := bS h
              refine Exists.intro [.int .i64 x6_3.I, .int .i64 x6_3.V] (And.intro (idx_map enc_api_Link e6_3) ?_)
              refine Exists.intro [.int .i64 x6_8.I, .int .i64 x6_8.V] (And.intro (idx_map enc_api_Link e6_8) ?_)
              refine And.intro (fun g7 => ?_) (fun g7 => ?_)
              · skip
                replace h := cT g7 h
                refine Exists.intro none ?_
                replace h := retS h hr1
                subst h
                exact (And.intro rfl trivial)
              · skip
                replace h := cF g7 h
                refine Exists.intro none ?_
                exact Exists.intro [] (Exists.intro [] (Exists.intro ((w64 (v3_44 + (1:Int))), m1) (And.intro (hl1 (w64 (v3_44 + (1:Int))) (Option.some.inj h).symm) (And.intro (Nat.lt_succ_self m1) (And.intro rfl (And.intro rfl (And.intro rfl (And.intro rfl (And.intro rfl (And.intro rfl (And.intro rfl (And.intro ff (And.intro rfl (And.intro rfl (And.intro rfl (And.intro rfl (And.intro rfl (And.intro ff (And.intro rfl trivial)))))))))))))))))))
            · skip
              replace h := cF g6 h
              replace h := popS h hr1
              refine Exists.intro none ?_
              replace h := Option.some.inj h
              subst h
              exact (And.intro rfl trivial)
        · skip
          replace h := cT (oL (oR (oR (oR g1 g2) g3) g4)) h
          refine Exists.intro none ?_
          replace h := Option.some.inj h
          subst h
          exact (And.intro rfl trivial)
      · skip
        replace h := cT (oL (oL (oR (oR g1 g2) g3))) h
        refine Exists.intro none ?_
        replace h := Option.some.inj h
        subst h
        exact (And.intro rfl trivial)
    · skip
      replace h := cT (oL (oL (oL (oR g1 g2)))) h
      refine Exists.intro none ?_
      replace h := Option.some.inj h
      subst h
      exact (And.intro rfl trivial)
  · skip
    replace h := cT (oL (oL (oL (oL g1)))) h
    refine Exists.intro none ?_
    replace h := Option.some.inj h
    subst h
    exact (And.intro rfl trivial)

theorem c_chain_Validate (p0 : api_Chain) (r : Int) (h : chain_Validate p0 = some r) : Contract Try.prog 45 [.agg [.int .i64 p0.W, .int .i64 p0.Cap, .int .i64 p0.I, .int .i64 p0.Next, .lst 2 false (List.map enc_api_Link p0.Links)]] [] (.int .i64 r) [] := by
  refine contract_of_vcs tab_ok orders_ok Try.func45 Try.call45 (by kernel_rfl) 0 rfl rfl _ rfl ?_
  delta chain_Validate at h
  refine Exists.intro none ?_
  refine Exists.intro none ?_
  refine Exists.intro none ?_
  refine And.intro (fun g1 => ?_) (fun g1 => ?_)
  · skip
    refine And.intro (fun g2 => ?_) (fun g2 => ?_)
    · skip
      refine And.intro (fun g3 => ?_) (fun g3 => ?_)
      · skip
        refine And.intro (fun g4 => ?_) (fun g4 => ?_)
        · skip
          refine And.intro (fun g5 => ?_) (fun g5 => ?_)
          · skip
            refine And.intro (fun g6 => ?_) (fun g6 => ?_)
            · skip
              refine Exists.intro [.int .i64 (p0.Links.length : Int)] (And.intro (lenS enc_api_Link p0.Links) ?_)
              refine And.intro (fun g7 => ?_) (fun g7 => ?_)
              · skip
                replace h := cT (oR (oR (oR (oR (oR (oR g1 g2) g3) g4) g5) g6) g7) h
                refine Exists.intro none ?_
                replace h := Option.some.inj h
                subst h
                exact (And.intro rfl trivial)
              · skip
                replace h := cF (oR (oR (oR (oR (oR (oR g1 g2) g3) g4) g5) g6) g7) h
                refine Exists.intro none ?_
                refine And.intro (fun g8 => ?_) (fun g8 => ?_)
                · skip
                  replace h := cT g8 h
                  refine Exists.intro none ?_
                  refine Exists.intro none ?_
                  refine Exists.intro [.int .i64 (p0.Links.length : Int)] (And.intro (lenS enc_api_Link p0.Links) ?_)
                  refine And.intro (fun g9 => ?_) (fun g9 => ?_)
                  · skip
                    refine And.intro (fun g10 => ?_) (fun g10 => ?_)
                    · skip
                      replace h := cT (oR g9 g10) h
                      refine Exists.intro none ?_
                      replace h := Option.some.inj h
                      subst h
                      exact (And.intro rfl trivial)
                    · skip
                      replace h := cF (oR g9 g10) h
                      refine Exists.intro none ?_
                      replace h := Option.some.inj h
                      subst h
                      exact (And.intro rfl trivial)
                  · skip
                    replace h := cT (oL g9) h
                    refine Exists.intro none ?_
                    replace h := Option.some.inj h
                    subst h
                    exact (And.intro rfl trivial)
                · skip
                  replace h := cF g8 h
                  refine Exists.intro none ?_
                  refine Exists.intro [.int .i64 (p0.Links.length : Int)] (And.intro (lenS enc_api_Link p0.Links) ?_)
                  refine And.intro (fun g11 => ?_) (fun g11 => ?_)
                  · skip
                    replace h := cT g11 h
                    refine Exists.intro none ?_
                    replace h := Option.some.inj h
                    subst h
                    exact (And.intro rfl trivial)
                  · skip
                    replace h := cF g11 h
                    refine Exists.intro none ?_
                    refine Exists.intro [.int .i64 (p0.Links.length : Int)] (And.intro (lenS enc_api_Link p0.Links) ?_)
                    replace h : chain_Validate_l6 p0 (0:Int) = some r := h
                    delta chain_Validate_l6 at h
                    obtain ⟨n1, h⟩ := loopS h
                    refine Exists.intro ⟨Int × Nat, fun q => [(.tmp 1, .av (.ptr 0 0)), (.tmp 58, .av (.lst 2 false (List.map enc_api_Link p0.Links))), (.tmp 59, .av (.int .i64 (p0.Links.length : Int))), (.tmp 60, .av (.int .i64 q.1)), (.box 0, .box [.int .i64 p0.W, .int .i64 p0.Cap, .int .i64 p0.I, .int .i64 p0.Next, .lst 2 false (List.map enc_api_Link p0.Links)])], fun q => loopN (fun (s : Int) => chain_Validate_l6s p0 s) q.2 q.1 = some r, fun q => q.2⟩ (And.intro (Exists.intro [] (Exists.intro [] (Exists.intro ((0:Int), n1) (And.intro h (And.intro rfl (And.intro ff (And.intro rfl (And.intro rfl (And.intro rfl (And.intro rfl (And.intro rfl (And.intro rfl (And.intro rfl (And.intro ff (And.intro rfl trivial))))))))))))))) ?_)
                    clear h
                    refine fun q h => ?_
                    obtain ⟨v6_60, n1⟩ := q
                    obtain ⟨m1, x1, hm1, h, hl1, hr1⟩ := loopN_step h
                    replace hm1 : n1 = m1 + 1 := hm1
                    subst hm1
                    replace h : chain_Validate_l6s p0 v6_60 = some x1 := h
                    delta chain_Validate_l6s at h
                    refine Exists.intro none ?_
                    refine And.intro (fun g12 => ?_) (fun g12 => ?_)
                    · skip
                      replace h := cT g12 h
                      refine Exists.intro none ?_
                      obtain ⟨x11_1, e11_1, h⟩ := bS h
                      refine Exists.intro [.int .i64 x11_1.I, .int .i64 x11_1.V] (And.intro (idx_map enc_api_Link e11_1) ?_)
                      refine Exists.intro none ?_
                      refine Exists.intro none ?_
                      refine And.intro (fun g13 => ?_) (fun g13 => ?_)
                      · skip
                        refine And.intro (fun g14 => ?_) (fun g14 => ?_)
                        · skip
                          refine And.intro (fun g15 => ?_) (fun g15 => ?_)
                          · skip
                            refine And.intro (fun g16 => ?_) (fun g16 => ?_)
                            · skip
                              refine And.intro (fun g17 => ?_) (fun g17 => ?_)
                              · skip
                                replace h := cT (oR (oR (oR (oR g13 g14) g15) g16) g17) h
                                refine Exists.intro none ?_
                                replace h := retS h hr1
                                subst h
                                exact (And.intro rfl trivial)
                              · skip
                                replace h := cF (oR (oR (oR (oR g13 g14) g15) g16) g17) h
                                refine Exists.intro none ?_
                                obtain ⟨x14_9, e14_9, h⟩ := bS h
                                obtain ⟨x14_20, e14_20, h⟩ := bS h
                                refine Exists.intro (some (⟨Unit, fun _ => [(.tmp 1, .av (.ptr 0 0)), (.tmp 58, .av (.lst 2 false (List.map enc_api_Link p0.Links))), (.tmp 59, .av (.int .i64 (p0.Links.length : Int))), (.tmp 60, .av (.int .i64 v6_60)), (.tmp 123, .av (.sb ((decide (v6_60 > (0:Int))) && ((decide (x11_1.I ≤ x14_9.I)) || (decide (x11_1.I > (w64 (x14_20.I + p0.W)))))))), (.box 0, .box [.int .i64 p0.W, .int .i64 p0.Cap, .int .i64 p0.I, .int .i64 p0.Next, .lst 2 false (List.map enc_api_Link p0.Links)])], fun _ => True, fun _ => 0⟩, 1000000)) (And.intro ?_ (fun _ _ => ?_))
                                · skip
                                  refine And.intro (fun g18 => ?_) (fun g18 => ?_)
                                  · skip
                                    refine Exists.intro [.int .i64 x14_9.I, .int .i64 x14_9.V] (And.intro (idx_map enc_api_Link (gdT g18 e14_9)) ?_)
                                    refine And.intro (fun g19 => ?_) (fun g19 => ?_)
                                    · skip
                                      refine Exists.intro [.int .i64 x14_20.I, .int .i64 x14_20.V] (And.intro (idx_map enc_api_Link (gdT (aR g18 (nE g19)) e14_20)) ?_)
                                      exact Exists.intro [] (Exists.intro [] (Exists.intro () (And.intro trivial (And.intro rfl (And.intro ff (And.intro rfl (And.intro rfl (And.intro rfl (And.intro (Eq.symm (aR g18 (oR g19 rfl))) (And.intro rfl (And.intro rfl (And.intro rfl (And.intro rfl (And.intro ff (And.intro rfl trivial)))))))))))))))
                                    · skip
                                      exact Exists.intro [] (Exists.intro [] (Exists.intro () (And.intro trivial (And.intro rfl (And.intro ff (And.intro rfl (And.intro rfl (And.intro rfl (And.intro (Eq.symm (aR g18 (oL g19))) (And.intro rfl (And.intro rfl (And.intro rfl (And.intro rfl (And.intro ff (And.intro rfl trivial)))))))))))))))
                                  · skip
                                    exact Exists.intro [] (Exists.intro [] (Exists.intro () (And.intro trivial (And.intro rfl (And.intro ff (And.intro rfl (And.intro rfl (And.intro rfl (And.intro (Eq.symm (aL g18)) (And.intro rfl (And.intro rfl (And.intro rfl (And.intro rfl (And.intro ff (And.intro rfl trivial)))))))))))))))
                                · skip
                                  refine And.intro (fun g20 => ?_) (fun g20 => ?_)
                                  · skip
                                    replace h := cT g20 h
                                    refine Exists.intro none ?_
                                    replace h := retS h hr1
                                    subst h
                                    exact (And.intro rfl trivial)
                                  · skip
                                    replace h := cF g20 h
                                    refine Exists.intro none ?_
                                    exact Exists.intro [] (Exists.intro [] (Exists.intro ((w64 (v6_60 + (1:Int))), m1) (And.intro (hl1 (w64 (v6_60 + (1:Int))) (Option.some.inj h).symm) (And.intro (Nat.lt_succ_self m1) (And.intro rfl (And.intro ff (And.intro rfl (And.intro rfl (And.intro rfl (And.intro rfl (And.intro rfl (And.intro rfl (And.intro rfl (And.intro ff (And.intro rfl trivial)))))))))))))))
                            · skip
                              replace h := cT (oL (oR (oR (oR g13 g14) g15) g16)) h
                              refine Exists.intro none ?_
                              replace h := retS h hr1
                              subst h
                              exact (And.intro rfl trivial)
                          · skip
                            replace h := cT (oL (oL (oR (oR g13 g14) g15))) h
                            refine Exists.intro none ?_
                            replace h := retS h hr1
                            subst h
                            exact (And.intro rfl trivial)
                        · skip
                          replace h := cT (oL (oL (oL (oR g13 g14)))) h
                          refine Exists.intro none ?_
                          replace h := retS h hr1
                          subst h
                          exact (And.intro rfl trivial)
                      · skip
                        replace h := cT (oL (oL (oL (oL g13)))) h
                        refine Exists.intro none ?_
                        replace h := retS h hr1
                        subst h
                        exact (And.intro rfl trivial)
                    · skip
                      replace h := cF g12 h
                      replace h := popS h hr1
                      refine Exists.intro none ?_
                      obtain ⟨x17_14, e17_14, h⟩ := bS h
                      refine Exists.intro none ?_
                      refine And.intro (fun g21 => ?_) (fun g21 => ?_)
                      · skip
                        refine Exists.intro [.int .i64 (p0.Links.length : Int)] (And.intro (lenS enc_api_Link p0.Links) ?_)
                        refine Exists.intro [.int .i64 x17_14.I, .int .i64 x17_14.V] (And.intro (idx_map enc_api_Link (gdT (nE g21) e17_14)) ?_)
                        refine And.intro (fun g22 => ?_) (fun g22 => ?_)
                        · skip
                          replace h := cT (oR g21 g22) h
                          refine Exists.intro none ?_
                          replace h := Option.some.inj h
                          subst h
                          exact (And.intro rfl trivial)
                        · skip
                          replace h := cF (oR g21 g22) h
                          refine Exists.intro none ?_
                          replace h := Option.some.inj h
                          subst h
                          exact (And.intro rfl trivial)
                      · skip
                        replace h := cT (oL g21) h
                        refine Exists.intro none ?_
                        replace h := Option.some.inj h
                        subst h
                        exact (And.intro rfl trivial)
            · skip
              replace h := cT (oL (oR (oR (oR (oR (oR g1 g2) g3) g4) g5) g6)) h
              refine Exists.intro none ?_
              replace h := Option.some.inj h
              subst h
              exact (And.intro rfl trivial)
          · skip
            replace h := cT (oL (oL (oR (oR (oR (oR g1 g2) g3) g4) g5))) h
            refine Exists.intro none ?_
            replace h := Option.some.inj h
            subst h
            exact (And.intro rfl trivial)
        · skip
          replace h := cT (oL (oL (oL (oR (oR (oR g1 g2) g3) g4)))) h
          refine Exists.intro none ?_
          replace h := Option.some.inj h
          subst h
          exact (And.intro rfl trivial)
      · skip
        replace h := cT (oL (oL (oL (oL (oR (oR g1 g2) g3))))) h
        refine Exists.intro none ?_
        replace h := Option.some.inj h
        subst h
        exact (And.intro rfl trivial)
    · skip
      replace h := cT (oL (oL (oL (oL (oL (oR g1 g2)))))) h
      refine Exists.intro none ?_
      replace h := Option.some.inj h
      subst h
      exact (And.intro rfl trivial)
  · skip
    replace h := cT (oL (oL (oL (oL (oL (oL g1)))))) h
    refine Exists.intro none ?_
    replace h := Option.some.inj h
    subst h
    exact (And.intro rfl trivial)

theorem c_draw_Next (p0 : (List Int)) (p1 : Int) (p2 : Int) (r : (Int × Int × Int)) (h : draw_Next p0 p1 p2 = some r) : Contract Try.prog 81 [.lst 1 false (List.map (eI .i64) p0), .int .i64 p1, .int .i64 p2] [] (.tup [.int .i64 r.1, .int .i64 r.2.1, .int .i64 r.2.2]) [] := by
  refine contract_of_vcs tab_ok orders_ok Try.func81 Try.call81 (by kernel_rfl) 0 rfl rfl _ rfl ?_
  delta draw_Next at h
  refine Exists.intro none ?_
  refine Exists.intro none ?_
  refine Exists.intro none ?_
  refine And.intro (fun g1 => ?_) (fun g1 => ?_)
  · skip
    refine And.intro (fun g2 => ?_) (fun g2 => ?_)
    · skip
      replace h := cT (oR g1 g2) h
      refine Exists.intro none ?_
      replace h := Option.some.inj h
      subst h
      exact (And.intro rfl (And.intro rfl (And.intro rfl trivial)))
    · skip
      replace h := cF (oR g1 g2) h
      refine Exists.intro none ?_
      obtain ⟨x3_7, e3_7, h⟩ := bS h
      obtain ⟨x3_14, e3_14, h⟩ := bS h
      refine Exists.intro none ?_
      refine Exists.intro [.int .i64 (p0.length : Int)] (And.intro (lenS (eI .i64) p0) ?_)
      refine And.intro (fun g3 => ?_) (fun g3 => ?_)
      · skip
        refine Exists.intro [.int .i64 x3_7] (And.intro (idx_map (eI .i64) (gdT (nE g3) e3_7)) ?_)
        refine And.intro (fun g4 => ?_) (fun g4 => ?_)
        · skip
          refine Exists.intro [.int .i64 x3_14] (And.intro (idx_map (eI .i64) (gdT (nE (oR g3 g4)) e3_14)) ?_)
          refine And.intro (fun g5 => ?_) (fun g5 => ?_)
          · skip
            replace h := cT (oR (oR g3 g4) g5) h
            refine Exists.intro none ?_
            replace h := Option.some.inj h
            subst h
            exact (And.intro rfl (And.intro rfl (And.intro rfl trivial)))
          · skip
            replace h := cF (oR (oR g3 g4) g5) h
            refine Exists.intro none ?_
            obtain ⟨x5_2, e5_2, h⟩ := bS h
            refine Exists.intro [.int .i64 x5_2] (And.intro (idx_map (eI .i64) e5_2) ?_)
            replace h := Option.some.inj h
            subst h
            exact (And.intro rfl (And.intro rfl (And.intro rfl trivial)))
        · skip
          replace h := cT (oL (oR g3 g4)) h
          refine Exists.intro none ?_
          replace h := Option.some.inj h
          subst h
          exact (And.intro rfl (And.intro rfl (And.intro rfl trivial)))
      · skip
        replace h := cT (oL (oL g3)) h
        refine Exists.intro none ?_
        replace h := Option.some.inj h
        subst h
        exact (And.intro rfl (And.intro rfl (And.intro rfl trivial)))
  · skip
    replace h := cT (oL g1) h
    refine Exists.intro none ?_
    replace h := Option.some.inj h
    subst h
    exact (And.intro rfl (And.intro rfl (And.intro rfl trivial)))

theorem c_chain_source_next (p0 : chain_source) (p1 : Int) (r : (Int × Int × chain_source)) (h : chain_source_next p0 p1 = some r) : Contract Try.prog 77 [.ptr 0 0, .int .i64 p1] [[.lst 1 false (List.map (eI .i64) p0.draws_), .int .i64 p0.at_, .int .i64 p0.beyond_]] (.tup [.int .i64 r.1, .int .i64 r.2.1]) [[.lst 1 false (List.map (eI .i64) r.2.2.draws_), .int .i64 r.2.2.at_, .int .i64 r.2.2.beyond_]] := by
  refine contract_of_vcs tab_ok orders_ok Try.func77 Try.call77 (by kernel_rfl) 1 rfl rfl _ rfl ?_
  delta chain_source_next at h
  refine Exists.intro none ?_
  refine Exists.intro none ?_
  obtain ⟨y1_9, e1_9, h⟩ := bS h
  refine Exists.intro _ (Exists.intro _ (And.intro (Contract.wk (c_draw_Next p0.draws_ p0.at_ p1 y1_9 e1_9) (And.intro ff (And.intro rfl (And.intro rfl (And.intro rfl trivial))))) (And.intro rfl ?_)))
  refine Exists.intro none ?_
  refine And.intro (fun g1 => ?_) (fun g1 => ?_)
  · skip
    replace h := cT g1 h
    refine Exists.intro none ?_
    refine Exists.intro [.int .i64 (p0.draws_.length : Int)] (And.intro (lenS (eI .i64) p0.draws_) ?_)
    refine Exists.intro none ?_
    refine And.intro (fun g2 => ?_) (fun g2 => ?_)
    · skip
      replace h := cT g2 h
      refine Exists.intro none ?_
      refine Exists.intro none ?_
      replace h := Option.some.inj h
      subst h
      exact (And.intro rfl (And.intro rfl (And.intro ff (And.intro rfl (And.intro rfl (And.intro rfl trivial))))))
    · skip
      replace h := cF g2 h
      refine Exists.intro none ?_
      replace h := Option.some.inj h
      subst h
      exact (And.intro rfl (And.intro rfl (And.intro ff (And.intro rfl (And.intro rfl (And.intro rfl trivial))))))
  · skip
    replace h := cF g1 h
    refine Exists.intro none ?_
    refine Exists.intro none ?_
    replace h := Option.some.inj h
    subst h
    exact (And.intro rfl (And.intro rfl (And.intro ff (And.intro rfl (And.intro rfl (And.intro rfl trivial))))))

theorem c_chain_add (p0 : api_Chain) (p1 : Int) (p2 : chain_source) (r : (api_Chain × Int × chain_source)) (h : chain_add p0 p1 p2 = some r) : Contract Try.prog 70 [.agg [.int .i64 p0.W, .int .i64 p0.Cap, .int .i64 p0.I, .int .i64 p0.Next, .lst 2 false (List.map enc_api_Link p0.Links)], .int .i64 p1, .ptr 0 0] [[.lst 1 false (List.map (eI .i64) p2.draws_), .int .i64 p2.at_, .int .i64 p2.beyond_]] (.tup [.agg [.int .i64 r.1.W, .int .i64 r.1.Cap, .int .i64 r.1.I, .int .i64 r.1.Next, .lst 2 false (List.map enc_api_Link r.1.Links)], .int .i64 r.2.1]) [[.lst 1 false (List.map (eI .i64) r.2.2.draws_), .int .i64 r.2.2.at_, .int .i64 r.2.2.beyond_]] := by
  refine contract_of_vcs tab_ok orders_ok Try.func70 Try.call70 (by kernel_rfl) 1 rfl rfl _ rfl ?_
  delta chain_add at h
  refine Exists.intro none ?_
  refine Exists.intro none ?_
  refine Exists.intro none ?_
  refine And.intro (fun g1 => ?_) (fun g1 => ?_)
  · skip
    refine And.intro (fun g2 => ?_) (fun g2 => ?_)
    · skip
      replace h := cT (oR g1 g2) h
      refine Exists.intro none ?_
      replace h := Option.some.inj h
      subst h
      exact (And.intro rfl (And.intro rfl (And.intro rfl (And.intro rfl (And.intro rfl (And.intro rfl (And.intro ff (And.intro rfl (And.intro rfl (And.intro rfl trivial))))))))))
    · skip
      replace h := cF (oR g1 g2) h
      refine Exists.intro none ?_
      refine And.intro (fun g3 => ?_) (fun g3 => ?_)
      · skip
        replace h := cT g3 h
        refine Exists.intro none ?_
        replace h := Option.some.inj h
        subst h
        exact (And.intro rfl (And.intro rfl (And.intro rfl (And.intro rfl (And.intro rfl (And.intro rfl (And.intro ff (And.intro rfl (And.intro rfl (And.intro rfl trivial))))))))))
      · skip
        replace h := cF g3 h
        refine Exists.intro none ?_
        refine And.intro (fun g4 => ?_) (fun g4 => ?_)
        · skip
          replace h := cT g4 h
          refine Exists.intro none ?_
          replace h := Option.some.inj h
          subst h
          exact (And.intro rfl (And.intro rfl (And.intro rfl (And.intro rfl (And.intro rfl (And.intro rfl (And.intro ff (And.intro rfl (And.intro rfl (And.intro rfl trivial))))))))))
        · skip
          replace h := cF g4 h
          refine Exists.intro none ?_
          refine Exists.intro none ?_
          obtain ⟨k8_3, h⟩ := ckS h
          refine And.intro (by have hh := (of_decide_eq_true k8_3); (try simp only [fixRows_length, List.length_map, List.length_append, List.length_take, List.length_drop, List.length_set, List.length_replicate, List.length_cons, List.length_nil] at hh); (try simp only [fixRows_length, List.length_map, List.length_append, List.length_take, List.length_drop, List.length_set, List.length_replicate, List.length_cons, List.length_nil]); omega) ?_
          refine Exists.intro none ?_
          refine Exists.intro none ?_
          obtain ⟨x10_5, e10_5, h⟩ := bS h
          obtain ⟨x10_7, e10_7, h⟩ := bS h
          refine Exists.intro (some (⟨Unit, fun _ => [(.tmp 1, .av (.int .i64 p1)), (.tmp 2, .av (.ptr 0 0)), (.tmp 3, .av (.ptr 1 0)), (.tmp 6, .av (.ptr 2 0)), (.tmp 8, .av (.int .i64 (w64 (p0.I + (1:Int))))), (.tmp 9, .av (.own 1284)), (.tmp 10, .av (.sb (p0.Next == (w64 (p0.I + (1:Int)))))), (.tmp 59, .av (.sb ((decide (((([] : List api_Link) ++ p0.Links).length : Int) > (0:Int))) && (x10_7.I == (w64 ((w64 (p0.I + (1:Int))) - p0.W)))))), (.box 0, .box [.lst 1 false (List.map (eI .i64) p2.draws_), .int .i64 p2.at_, .int .i64 p2.beyond_]), (.box 1, .box [.int .i64 p0.W, .int .i64 p0.Cap, .int .i64 p0.I, .int .i64 p0.Next, .lst 2 false (List.map enc_api_Link p0.Links)]), (.box 2, .box [.int .i64 (0:Int), .int .i64 (0:Int), .int .i64 (0:Int), .int .i64 (0:Int), .nilS]), (.tok 1284, .tok 71 2 (List.map enc_api_Link (([] : List api_Link) ++ p0.Links)))], fun _ => True, fun _ => 0⟩, 1000000)) (And.intro ?_ (fun _ _ => ?_))
          · skip
            refine Exists.intro [.int .i64 ((([] : List api_Link) ++ p0.Links).length : Int)] (And.intro (lenC (by simp only [fixRows_length, List.length_map, List.length_append, List.length_take, List.length_drop, List.length_set, List.length_replicate, List.length_cons, List.length_nil])) ?_)
            refine And.intro (fun g5 => ?_) (fun g5 => ?_)
            · skip
              refine And.intro (by have hh := idx_lt enc_api_Link (gdT g5 e10_5); (try simp only [fixRows_length, List.length_map, List.length_append, List.length_take, List.length_drop, List.length_set, List.length_replicate, List.length_cons, List.length_nil] at hh); (try simp only [fixRows_length, List.length_map, List.length_append, List.length_take, List.length_drop, List.length_set, List.length_replicate, List.length_cons, List.length_nil]); exact hh) ?_
              refine Exists.intro [.int .i64 x10_7.I, .int .i64 x10_7.V] (And.intro (by have hh := idx_elt enc_api_Link (gdT g5 e10_7); simp only [List.map_append, List.map_cons, List.map_nil, List.map_take, List.map_drop, List.map_set, List.map_replicate] at hh; exact hh) ?_)
              exact Exists.intro [] (Exists.intro [] (Exists.intro () (And.intro trivial (And.intro rfl (And.intro rfl (And.intro rfl (And.intro rfl (And.intro (Eq.symm (aR g5 rfl)) (And.intro ff (And.intro rfl (And.intro rfl (And.intro rfl (And.intro rfl (And.intro rfl (And.intro rfl (And.intro rfl (And.intro ff (And.intro rfl (And.intro rfl (And.intro rfl (And.intro rfl (And.intro rfl (And.intro (by first | rfl | (simp only [List.map_append, List.map_cons, List.map_nil, List.map_take, List.map_drop, List.map_set, List.map_replicate]; done) | (simp only [List.map_append, List.map_cons, List.map_nil, List.map_take, List.map_drop, List.map_set, List.map_replicate]; rfl) | (simp only [List.map_append, List.map_cons, List.map_nil, List.map_take, List.map_drop, List.map_set, List.map_replicate, eL, enc_api_Recent, enc_api_Chain, enc_chain_source, enc_made_Tape, enc_law18_leaf]; done) | (simp only [List.map_append, List.map_cons, List.map_nil, List.map_take, List.map_drop, List.map_set, List.map_replicate, eL, enc_api_Recent, enc_api_Chain, enc_chain_source, enc_made_Tape, enc_law18_leaf]; rfl)) trivial)))))))))))))))))))))))
            · skip
              exact Exists.intro [] (Exists.intro [] (Exists.intro () (And.intro trivial (And.intro rfl (And.intro rfl (And.intro rfl (And.intro rfl (And.intro (Eq.symm (aL g5)) (And.intro ff (And.intro rfl (And.intro rfl (And.intro rfl (And.intro rfl (And.intro rfl (And.intro rfl (And.intro rfl (And.intro ff (And.intro rfl (And.intro rfl (And.intro rfl (And.intro rfl (And.intro rfl (And.intro (by first | rfl | (simp only [List.map_append, List.map_cons, List.map_nil, List.map_take, List.map_drop, List.map_set, List.map_replicate]; done) | (simp only [List.map_append, List.map_cons, List.map_nil, List.map_take, List.map_drop, List.map_set, List.map_replicate]; rfl) | (simp only [List.map_append, List.map_cons, List.map_nil, List.map_take, List.map_drop, List.map_set, List.map_replicate, eL, enc_api_Recent, enc_api_Chain, enc_chain_source, enc_made_Tape, enc_law18_leaf]; done) | (simp only [List.map_append, List.map_cons, List.map_nil, List.map_take, List.map_drop, List.map_set, List.map_replicate, eL, enc_api_Recent, enc_api_Chain, enc_chain_source, enc_made_Tape, enc_law18_leaf]; rfl)) trivial)))))))))))))))))))))))
          · skip
            refine Exists.intro (some (⟨(List api_Link) × Bool × (List Int) × Int × Int, fun q => [(.tmp 1, .av (.int .i64 p1)), (.tmp 2, .av (.ptr 0 0)), (.tmp 3, .av (.ptr 1 0)), (.tmp 6, .av (.ptr 2 0)), (.tmp 8, .av (.int .i64 (w64 (p0.I + (1:Int))))), (.tmp 9, .av (.own 1999999)), (.tmp 10, .av (.sb q.2.1)), (.box 0, .box [.lst 1 false (List.map (eI .i64) q.2.2.1), .int .i64 q.2.2.2.1, .int .i64 q.2.2.2.2]), (.box 1, .box [.int .i64 p0.W, .int .i64 p0.Cap, .int .i64 p0.I, .int .i64 p0.Next, .lst 2 false (List.map enc_api_Link p0.Links)]), (.box 2, .box [.int .i64 (0:Int), .int .i64 (0:Int), .int .i64 (0:Int), .int .i64 (0:Int), .nilS]), (.tok 1999999, .tok 71 2 (List.map enc_api_Link q.1))], fun q => chain_add_j5 p0 p1 q.1 q.2.1 q.2.2.1 q.2.2.2.1 q.2.2.2.2 = some r, fun _ => 0⟩, 2000000)) (And.intro ?_ ?_)
            · skip
              refine And.intro (fun g6 => ?_) (fun g6 => ?_)
              · skip
                replace h := cT g6 h
                refine Exists.intro none ?_
                obtain ⟨k11_1, h⟩ := ckS h
                refine And.intro (by have hh := (of_decide_eq_true k11_1); (try simp only [fixRows_length, List.length_map, List.length_append, List.length_take, List.length_drop, List.length_set, List.length_replicate, List.length_cons, List.length_nil] at hh); (try simp only [fixRows_length, List.length_map, List.length_append, List.length_take, List.length_drop, List.length_set, List.length_replicate, List.length_cons, List.length_nil]); omega) ?_
                exact Exists.intro [(1999999, some 1000001)] (Exists.intro [] (Exists.intro (((([] : List api_Link) ++ p0.Links).drop ((1:Int)).toNat), (p0.Next == (w64 (p0.I + (1:Int)))), p2.draws_, p2.at_, p2.beyond_) (And.intro h (And.intro rfl (And.intro rfl (And.intro rfl (And.intro rfl (And.intro ff (And.intro rfl (And.intro rfl (And.intro rfl (And.intro rfl (And.intro rfl (And.intro rfl (And.intro rfl (And.intro ff (And.intro rfl (And.intro rfl (And.intro rfl (And.intro rfl (And.intro rfl (And.intro (by first | rfl | (simp only [List.map_append, List.map_cons, List.map_nil, List.map_take, List.map_drop, List.map_set, List.map_replicate]; done) | (simp only [List.map_append, List.map_cons, List.map_nil, List.map_take, List.map_drop, List.map_set, List.map_replicate]; rfl) | (simp only [List.map_append, List.map_cons, List.map_nil, List.map_take, List.map_drop, List.map_set, List.map_replicate, eL, enc_api_Recent, enc_api_Chain, enc_chain_source, enc_made_Tape, enc_law18_leaf]; done) | (simp only [List.map_append, List.map_cons, List.map_nil, List.map_take, List.map_drop, List.map_set, List.map_replicate, eL, enc_api_Recent, enc_api_Chain, enc_chain_source, enc_made_Tape, enc_law18_leaf]; rfl)) trivial))))))))))))))))))))))
              · skip
                replace h := cF g6 h
                refine Exists.intro none ?_
                obtain ⟨y12_5, e12_5, h⟩ := bS h
                refine Exists.intro _ (Exists.intro _ (And.intro (Contract.wk (c_chain_source_next p2 (imin (w64 (p0.I + (1:Int))) p0.W) y12_5 e12_5) (And.intro rfl (And.intro ff (And.intro rfl (And.intro rfl (And.intro rfl trivial)))))) (And.intro rfl ?_)))
                refine Exists.intro none ?_
                refine And.intro (fun g7 => ?_) (fun g7 => ?_)
                · skip
                  replace h := cT g7 h
                  refine Exists.intro none ?_
                  replace h := Option.some.inj h
                  subst h
                  exact (And.intro rfl (And.intro rfl (And.intro rfl (And.intro rfl (And.intro rfl (And.intro rfl (And.intro ff (And.intro rfl (And.intro rfl (And.intro rfl trivial))))))))))
                · skip
                  replace h := cF g7 h
                  refine Exists.intro none ?_
                  refine Exists.intro none ?_
                  refine And.intro (fun g8 => ?_) (fun g8 => ?_)
                  · skip
                    replace h := cT g8 h
                    refine Exists.intro none ?_
                    exact Exists.intro [(1999999, none)] (Exists.intro [] (Exists.intro (([] : List api_Link), true, y12_5.2.2.draws_, y12_5.2.2.at_, y12_5.2.2.beyond_) (And.intro h (And.intro rfl (And.intro rfl (And.intro rfl (And.intro rfl (And.intro ff (And.intro rfl (And.intro rfl (And.intro rfl (And.intro rfl (And.intro rfl (And.intro rfl (And.intro rfl (And.intro ff (And.intro rfl (And.intro rfl (And.intro rfl (And.intro rfl (And.intro rfl (And.intro rfl trivial))))))))))))))))))))))
                  · skip
                    replace h := cF g8 h
                    exact Exists.intro [(1999999, some 1284)] (Exists.intro [] (Exists.intro ((([] : List api_Link) ++ p0.Links), (p0.Next == (w64 (p0.I + (1:Int)))), y12_5.2.2.draws_, y12_5.2.2.at_, y12_5.2.2.beyond_) (And.intro h (And.intro rfl (And.intro rfl (And.intro rfl (And.intro rfl (And.intro ff (And.intro rfl (And.intro rfl (And.intro rfl (And.intro rfl (And.intro rfl (And.intro rfl (And.intro rfl (And.intro ff (And.intro rfl (And.intro rfl (And.intro rfl (And.intro rfl (And.intro rfl (And.intro rfl trivial))))))))))))))))))))))
            · skip
              clear h
              refine fun q h => ?_
              obtain ⟨j5_9, j5_10, j5_b0_0, j5_b0_1, j5_b0_2⟩ := q
              replace h : chain_add_j5 p0 p1 j5_9 j5_10 j5_b0_0 j5_b0_1 j5_b0_2 = some r := h
              delta chain_add_j5 at h
              refine Exists.intro none ?_
              refine Exists.intro (some (⟨(List api_Link) × (List Int) × Int × Int × Int, fun q => [(.tmp 3, .av (.ptr 1 0)), (.tmp 6, .av (.ptr 2 0)), (.tmp 8, .av (.int .i64 (w64 (p0.I + (1:Int))))), (.tmp 9, .av (.own 2999999)), (.box 0, .box [.lst 1 false (List.map (eI .i64) q.2.1), .int .i64 q.2.2.1, .int .i64 q.2.2.2.1]), (.box 1, .box [.int .i64 p0.W, .int .i64 p0.Cap, .int .i64 p0.I, .int .i64 q.2.2.2.2, .lst 2 false (List.map enc_api_Link p0.Links)]), (.box 2, .box [.int .i64 (0:Int), .int .i64 (0:Int), .int .i64 (0:Int), .int .i64 (0:Int), .nilS]), (.tok 2999999, .tok 71 2 (List.map enc_api_Link q.1))], fun q => chain_add_j8 p0 q.1 q.2.1 q.2.2.1 q.2.2.2.1 q.2.2.2.2 = some r, fun _ => 0⟩, 3000000)) (And.intro ?_ ?_)
              · skip
                refine And.intro (fun g9 => ?_) (fun g9 => ?_)
                · skip
                  replace h := cT g9 h
                  refine Exists.intro none ?_
                  refine Exists.intro [.int .i64 (j5_9.length : Int)] (And.intro (lenS enc_api_Link j5_9) ?_)
                  refine And.intro (fun g10 => ?_) (fun g10 => ?_)
                  · skip
                    replace h := cT g10 h
                    refine Exists.intro none ?_
                    replace h := Option.some.inj h
                    subst h
                    exact (And.intro rfl (And.intro rfl (And.intro rfl (And.intro rfl (And.intro rfl (And.intro rfl (And.intro ff (And.intro rfl (And.intro rfl (And.intro rfl trivial))))))))))
                  · skip
                    replace h := cF g10 h
                    refine Exists.intro none ?_
                    obtain ⟨k20_5, h⟩ := ckS h
                    refine And.intro (by have hh := (of_decide_eq_true k20_5); (try simp only [fixRows_length, List.length_map, List.length_append, List.length_take, List.length_drop, List.length_set, List.length_replicate, List.length_cons, List.length_nil] at hh); (try simp only [fixRows_length, List.length_map, List.length_append, List.length_take, List.length_drop, List.length_set, List.length_replicate, List.length_cons, List.length_nil]); omega) ?_
                    refine Exists.intro none ?_
                    obtain ⟨y21_3, e21_3, h⟩ := bS h
                    refine Exists.intro _ (Exists.intro _ (And.intro (Contract.wk (c_chain_source_next (chain_source.mk j5_b0_0 j5_b0_1 j5_b0_2) p0.W y21_3 e21_3) (And.intro rfl (And.intro ff (And.intro rfl (And.intro rfl (And.intro rfl trivial)))))) (And.intro rfl ?_)))
                    refine Exists.intro none ?_
                    refine And.intro (fun g11 => ?_) (fun g11 => ?_)
                    · skip
                      replace h := cT g11 h
                      refine Exists.intro none ?_
                      replace h := Option.some.inj h
                      subst h
                      exact (And.intro rfl (And.intro rfl (And.intro rfl (And.intro rfl (And.intro rfl (And.intro rfl (And.intro ff (And.intro rfl (And.intro rfl (And.intro rfl trivial))))))))))
                    · skip
                      replace h := cF g11 h
                      refine Exists.intro none ?_
                      exact Exists.intro [(2999999, some 2000517)] (Exists.intro [] (Exists.intro ((j5_9 ++ [(api_Link.mk (w64 (p0.I + (1:Int))) p1)]), y21_3.2.2.draws_, y21_3.2.2.at_, y21_3.2.2.beyond_, (w64 ((w64 ((w64 (p0.I + (1:Int))) + (1:Int))) + y21_3.1))) (And.intro h (And.intro rfl (And.intro rfl (And.intro ff (And.intro rfl (And.intro rfl (And.intro rfl (And.intro rfl (And.intro rfl (And.intro rfl (And.intro rfl (And.intro ff (And.intro rfl (And.intro rfl (And.intro rfl (And.intro rfl (And.intro rfl (And.intro (by first | rfl | (simp only [List.map_append, List.map_cons, List.map_nil, List.map_take, List.map_drop, List.map_set, List.map_replicate]; done) | (simp only [List.map_append, List.map_cons, List.map_nil, List.map_take, List.map_drop, List.map_set, List.map_replicate]; rfl) | (simp only [List.map_append, List.map_cons, List.map_nil, List.map_take, List.map_drop, List.map_set, List.map_replicate, eL, enc_api_Recent, enc_api_Chain, enc_chain_source, enc_made_Tape, enc_law18_leaf]; done) | (simp only [List.map_append, List.map_cons, List.map_nil, List.map_take, List.map_drop, List.map_set, List.map_replicate, eL, enc_api_Recent, enc_api_Chain, enc_chain_source, enc_made_Tape, enc_law18_leaf]; rfl)) trivial))))))))))))))))))))
                · skip
                  replace h := cF g9 h
                  exact Exists.intro [(2999999, some 1999999)] (Exists.intro [] (Exists.intro (j5_9, j5_b0_0, j5_b0_1, j5_b0_2, p0.Next) (And.intro h (And.intro rfl (And.intro rfl (And.intro ff (And.intro rfl (And.intro rfl (And.intro rfl (And.intro rfl (And.intro rfl (And.intro rfl (And.intro rfl (And.intro ff (And.intro rfl (And.intro rfl (And.intro rfl (And.intro rfl (And.intro rfl (And.intro rfl trivial))))))))))))))))))))
              · skip
                clear h
                refine fun q h => ?_
                obtain ⟨j8_9, j8_b0_0, j8_b0_1, j8_b0_2, j8_b0x0_3⟩ := q
                replace h : chain_add_j8 p0 j8_9 j8_b0_0 j8_b0_1 j8_b0_2 j8_b0x0_3 = some r := h
                delta chain_add_j8 at h
                refine Exists.intro none ?_
                refine Exists.intro none ?_
                replace h := Option.some.inj h
                subst h
                exact (And.intro rfl (And.intro rfl (And.intro rfl (And.intro rfl (And.intro ff (And.intro rfl (And.intro rfl (And.intro ff (And.intro rfl (And.intro rfl (And.intro rfl trivial)))))))))))
  · skip
    replace h := cT (oL g1) h
    refine Exists.intro none ?_
    replace h := Option.some.inj h
    subst h
    exact (And.intro rfl (And.intro rfl (And.intro rfl (And.intro rfl (And.intro rfl (And.intro rfl (And.intro ff (And.intro rfl (And.intro rfl (And.intro rfl trivial))))))))))

theorem c_chain_Add (p0 : api_Chain) (p1 : Int) (p2 : (List Int)) (p3 : Int) (r : (api_Chain × Int × Int)) (h : chain_Add p0 p1 p2 p3 = some r) : Contract Try.prog 47 [.agg [.int .i64 p0.W, .int .i64 p0.Cap, .int .i64 p0.I, .int .i64 p0.Next, .lst 2 false (List.map enc_api_Link p0.Links)], .int .i64 p1, .lst 1 false (List.map (eI .i64) p2), .int .i64 p3] [] (.tup [.agg [.int .i64 r.1.W, .int .i64 r.1.Cap, .int .i64 r.1.I, .int .i64 r.1.Next, .lst 2 false (List.map enc_api_Link r.1.Links)], .int .i64 r.2.1, .int .i64 r.2.2]) [] := by
  refine contract_of_vcs tab_ok orders_ok Try.func47 Try.call47 (by kernel_rfl) 0 rfl rfl _ rfl ?_
  delta chain_Add at h
  refine Exists.intro none ?_
  refine Exists.intro none ?_
  obtain ⟨y1_1, e1_1, h⟩ := bS h
  refine Exists.intro _ (Exists.intro _ (And.intro (Contract.wk (c_chain_Validate p0 y1_1 e1_1) (And.intro rfl (And.intro rfl (And.intro rfl (And.intro rfl (And.intro ff (And.intro rfl trivial))))))) (And.intro rfl ?_)))
  refine Exists.intro none ?_
  refine And.intro (fun g1 => ?_) (fun g1 => ?_)
  · skip
    replace h := cT g1 h
    refine Exists.intro none ?_
    replace h := Option.some.inj h
    subst h
    exact (And.intro rfl (And.intro rfl (And.intro rfl (And.intro rfl (And.intro rfl (And.intro rfl (And.intro rfl trivial)))))))
  · skip
    replace h := cF g1 h
    refine Exists.intro none ?_
    refine Exists.intro none ?_
    obtain ⟨y5_3, e5_3, h⟩ := bS h
    refine Exists.intro _ (Exists.intro _ (And.intro (Contract.wk (c_chain_add p0 p1 (chain_source.mk p2 p3 (0:Int)) y5_3 e5_3) (And.intro rfl (And.intro rfl (And.intro rfl (And.intro rfl (And.intro ff (And.intro rfl (And.intro rfl (And.intro ff (And.intro rfl (And.intro rfl (And.intro rfl trivial)))))))))))) (And.intro rfl ?_)))
    refine Exists.intro none ?_
    refine And.intro (fun g2 => ?_) (fun g2 => ?_)
    · skip
      replace h := cT g2 h
      refine Exists.intro none ?_
      replace h := Option.some.inj h
      subst h
      exact (And.intro rfl (And.intro rfl (And.intro rfl (And.intro rfl (And.intro rfl (And.intro rfl (And.intro rfl trivial)))))))
    · skip
      replace h := cF g2 h
      refine Exists.intro none ?_
      replace h := Option.some.inj h
      subst h
      exact (And.intro rfl (And.intro rfl (And.intro rfl (And.intro rfl (And.intro ff (And.intro rfl (And.intro rfl (And.intro rfl trivial))))))))

theorem c_chain_Ask (p0 : api_Chain) (r : (Int × Int)) (h : chain_Ask p0 = some r) : Contract Try.prog 43 [.agg [.int .i64 p0.W, .int .i64 p0.Cap, .int .i64 p0.I, .int .i64 p0.Next, .lst 2 false (List.map enc_api_Link p0.Links)]] [] (.tup [.int .i64 r.1, .int .i64 r.2]) [] := by
  refine contract_of_vcs tab_ok orders_ok Try.func43 Try.call43 (by kernel_rfl) 0 rfl rfl _ rfl ?_
  delta chain_Ask at h
  refine Exists.intro none ?_
  refine Exists.intro none ?_
  obtain ⟨y1_1, e1_1, h⟩ := bS h
  refine Exists.intro _ (Exists.intro _ (And.intro (Contract.wk (c_chain_Validate p0 y1_1 e1_1) (And.intro rfl (And.intro rfl (And.intro rfl (And.intro rfl (And.intro ff (And.intro rfl trivial))))))) (And.intro rfl ?_)))
  refine Exists.intro none ?_
  refine And.intro (fun g1 => ?_) (fun g1 => ?_)
  · skip
    replace h := cT g1 h
    refine Exists.intro none ?_
    replace h := Option.some.inj h
    subst h
    exact (And.intro rfl (And.intro rfl trivial))
  · skip
    replace h := cF g1 h
    refine Exists.intro none ?_
    refine Exists.intro [.int .i64 (p0.Links.length : Int)] (And.intro (lenS enc_api_Link p0.Links) ?_)
    refine And.intro (fun g2 => ?_) (fun g2 => ?_)
    · skip
      replace h := cT g2 h
      refine Exists.intro none ?_
      replace h := Option.some.inj h
      subst h
      exact (And.intro rfl (And.intro rfl trivial))
    · skip
      replace h := cF g2 h
      refine Exists.intro none ?_
      obtain ⟨x6_2, e6_2, h⟩ := bS h
      refine Exists.intro [.int .i64 x6_2.I, .int .i64 x6_2.V] (And.intro (idx_map enc_api_Link e6_2) ?_)
      replace h := Option.some.inj h
      subst h
      exact (And.intro rfl (And.intro rfl trivial))

theorem c_law18_awake (r : Bool) (h : law18_awake = some r) : Contract Try.prog 41 [] [] (.sb r) [] := by
  refine contract_of_vcs tab_ok orders_ok Try.func41 Try.call41 (by kernel_rfl) 0 rfl rfl _ rfl ?_
  delta law18_awake at h
  refine Exists.intro none ?_
  refine Exists.intro none ?_
  refine Exists.intro _ (Exists.intro _ (And.intro (Contract.wk (c_chain_New (2:Int) (5:Int)) (And.intro rfl (And.intro rfl trivial))) (And.intro rfl ?_)))
  refine Exists.intro none ?_
  obtain ⟨y2_2, e2_2, h⟩ := bS h
  refine Exists.intro _ (Exists.intro _ (And.intro (Contract.wk (c_chain_Add (chain_New (2:Int) (5:Int)).1 (7:Int) [(0:Int), (1:Int)] (0:Int) y2_2 e2_2) (And.intro rfl (And.intro rfl (And.intro rfl (And.intro rfl (And.intro ff (And.intro rfl (And.intro rfl (And.intro ff (And.intro (by first | rfl | (simp only [List.map_append, List.map_cons, List.map_nil, List.map_take, List.map_drop, List.map_set, List.map_replicate]; done) | (simp only [List.map_append, List.map_cons, List.map_nil, List.map_take, List.map_drop, List.map_set, List.map_replicate]; rfl) | (simp only [List.map_append, List.map_cons, List.map_nil, List.map_take, List.map_drop, List.map_set, List.map_replicate, eL, enc_api_Recent, enc_api_Chain, enc_chain_source, enc_made_Tape, enc_law18_leaf]; done) | (simp only [List.map_append, List.map_cons, List.map_nil, List.map_take, List.map_drop, List.map_set, List.map_replicate, eL, enc_api_Recent, enc_api_Chain, enc_chain_source, enc_made_Tape, enc_law18_leaf]; rfl)) (And.intro rfl trivial))))))))))) (And.intro rfl ?_)))
  refine Exists.intro none ?_
  obtain ⟨y3_1, e3_1, h⟩ := bS h
  refine Exists.intro _ (Exists.intro _ (And.intro (Contract.wk (c_chain_Ask y2_2.1 y3_1 e3_1) (And.intro rfl (And.intro rfl (And.intro rfl (And.intro rfl (And.intro ff (And.intro rfl trivial))))))) (And.intro rfl ?_)))
  refine Exists.intro none ?_
  refine Exists.intro none ?_
  refine And.intro (fun g1 => ?_) (fun g1 => ?_)
  · skip
    refine And.intro (fun g2 => ?_) (fun g2 => ?_)
    · skip
      refine And.intro (fun g3 => ?_) (fun g3 => ?_)
      · skip
        refine And.intro (fun g4 => ?_) (fun g4 => ?_)
        · skip
          refine And.intro (fun g5 => ?_) (fun g5 => ?_)
          · skip
            replace h := Option.some.inj h
            subst h
            exact (And.intro (Eq.symm (aR (aR (aR (aR (aR g1 g2) g3) g4) g5) rfl)) trivial)
          · skip
            replace h := Option.some.inj h
            subst h
            exact (And.intro (Eq.symm (aL (aR (aR (aR (aR g1 g2) g3) g4) g5))) trivial)
        · skip
          replace h := Option.some.inj h
          subst h
          exact (And.intro (Eq.symm (aL (aL (aR (aR (aR g1 g2) g3) g4)))) trivial)
      · skip
        replace h := Option.some.inj h
        subst h
        exact (And.intro (Eq.symm (aL (aL (aL (aR (aR g1 g2) g3))))) trivial)
    · skip
      replace h := Option.some.inj h
      subst h
      exact (And.intro (Eq.symm (aL (aL (aL (aL (aR g1 g2)))))) trivial)
  · skip
    replace h := Option.some.inj h
    subst h
    exact (And.intro (Eq.symm (aL (aL (aL (aL (aL g1)))))) trivial)

theorem c_chain_Needs (p0 : api_Chain) (p1 : Int) (p2 : (List Int)) (p3 : Int) (r : (Int × Bool)) (h : chain_Needs p0 p1 p2 p3 = some r) : Contract Try.prog 49 [.agg [.int .i64 p0.W, .int .i64 p0.Cap, .int .i64 p0.I, .int .i64 p0.Next, .lst 2 false (List.map enc_api_Link p0.Links)], .int .i64 p1, .lst 1 false (List.map (eI .i64) p2), .int .i64 p3] [] (.tup [.int .i64 r.1, .sb r.2]) [] := by
  refine contract_of_vcs tab_ok orders_ok Try.func49 Try.call49 (by kernel_rfl) 0 rfl rfl _ rfl ?_
  delta chain_Needs at h
  refine Exists.intro none ?_
  refine Exists.intro none ?_
  obtain ⟨y1_1, e1_1, h⟩ := bS h
  refine Exists.intro _ (Exists.intro _ (And.intro (Contract.wk (c_chain_Validate p0 y1_1 e1_1) (And.intro rfl (And.intro rfl (And.intro rfl (And.intro rfl (And.intro ff (And.intro rfl trivial))))))) (And.intro rfl ?_)))
  refine And.intro (fun g1 => ?_) (fun g1 => ?_)
  · skip
    replace h := cT g1 h
    refine Exists.intro none ?_
    replace h := Option.some.inj h
    subst h
    exact (And.intro rfl (And.intro rfl trivial))
  · skip
    replace h := cF g1 h
    refine Exists.intro none ?_
    refine Exists.intro none ?_
    obtain ⟨y4_3, e4_3, h⟩ := bS h
    refine Exists.intro _ (Exists.intro _ (And.intro (Contract.wk (c_chain_add p0 p1 (chain_source.mk p2 p3 (0:Int)) y4_3 e4_3) (And.intro rfl (And.intro rfl (And.intro rfl (And.intro rfl (And.intro ff (And.intro rfl (And.intro rfl (And.intro ff (And.intro rfl (And.intro rfl (And.intro rfl trivial)))))))))))) (And.intro rfl ?_)))
    refine Exists.intro none ?_
    refine Exists.intro none ?_
    refine And.intro (fun g2 => ?_) (fun g2 => ?_)
    · skip
      refine And.intro (fun g3 => ?_) (fun g3 => ?_)
      · skip
        replace h := cT (oR g2 g3) h
        refine Exists.intro none ?_
        replace h := Option.some.inj h
        subst h
        exact (And.intro rfl (And.intro rfl trivial))
      · skip
        replace h := cF (oR g2 g3) h
        refine Exists.intro none ?_
        replace h := Option.some.inj h
        subst h
        exact (And.intro rfl (And.intro rfl trivial))
    · skip
      replace h := cT (oL g2) h
      refine Exists.intro none ?_
      replace h := Option.some.inj h
      subst h
      exact (And.intro rfl (And.intro rfl trivial))

theorem c_law18_merged (p0 : (List law18_leaf)) (r : (List law18_leaf)) (h : law18_merged p0 = some r) : Contract Try.prog 55 [.lst 6 false (List.map enc_law18_leaf p0)] [] (.lst 6 false (List.map enc_law18_leaf r)) [] := by
  refine contract_of_vcs tab_ok orders_ok Try.func55 Try.call55 (by kernel_rfl) 0 rfl rfl _ rfl ?_
  delta law18_merged at h
  refine Exists.intro none ?_
  refine Exists.intro none ?_
  refine Exists.intro none ?_
  refine Exists.intro [.int .i64 (p0.length : Int)] (And.intro (lenS enc_law18_leaf p0) ?_)
  replace h : law18_merged_l2 p0 ([] : List law18_leaf) (0:Int) = some r := h
  delta law18_merged_l2 at h
  obtain ⟨n1, h⟩ := loopS h
  refine Exists.intro ⟨((List law18_leaf) × Int) × Nat, fun q => [(.tmp 3, .av (.own 767)), (.tmp 7, .av (.lst 6 false (List.map enc_law18_leaf p0))), (.tmp 8, .av (.int .i64 (p0.length : Int))), (.tmp 9, .av (.int .i64 q.1.2)), (.tok 767, .tok 74 6 (List.map enc_law18_leaf q.1.1))], fun q => loopN (fun (s : ((List law18_leaf) × Int)) => law18_merged_l2s p0 s.1 s.2) q.2 q.1 = some r, fun q => q.2⟩ (And.intro (Exists.intro [(767, none)] (Exists.intro [] (Exists.intro ((([] : List law18_leaf), (0:Int)), n1) (And.intro h (And.intro rfl (And.intro ff (And.intro rfl (And.intro rfl (And.intro rfl (And.intro rfl trivial)))))))))) ?_)
  clear h
  refine fun q h => ?_
  obtain ⟨⟨v2_3, v2_9⟩, n1⟩ := q
  obtain ⟨m1, x1, hm1, h, hl1, hr1⟩ := loopN_step h
  replace hm1 : n1 = m1 + 1 := hm1
  subst hm1
  replace h : law18_merged_l2s p0 v2_3 v2_9 = some x1 := h
  delta law18_merged_l2s at h
  refine Exists.intro none ?_
  refine And.intro (fun g1 => ?_) (fun g1 => ?_)
  · skip
    replace h := cT g1 h
    refine Exists.intro none ?_
    refine Exists.intro none ?_
    obtain ⟨x4_0, e4_0, h⟩ := bS h
    refine Exists.intro [.int .i64 x4_0.x_.W, .int .i64 x4_0.x_.Cap, .int .i64 x4_0.x_.I, .int .i64 x4_0.x_.Next, .lst 2 false (List.map enc_api_Link x4_0.x_.Links), .int .i64 x4_0.weight_] (And.intro (idx_map enc_law18_leaf e4_0) ?_)
    refine Exists.intro none ?_
    replace h : law18_merged_l6 x4_0 v2_3 v2_9 (0:Int) = some x1 := h
    delta law18_merged_l6 at h
    obtain ⟨n2, h⟩ := loopS h
    refine Exists.intro ⟨Int × Nat, fun q => [(.tmp 3, .av (.own 767)), (.tmp 5, .av (.ptr 1026 0)), (.tmp 6, .av (.int .i64 q.1)), (.tmp 7, .av (.lst 6 false (List.map enc_law18_leaf p0))), (.tmp 8, .av (.int .i64 (p0.length : Int))), (.tmp 9, .av (.int .i64 v2_9)), (.box 1026, .box [.int .i64 x4_0.x_.W, .int .i64 x4_0.x_.Cap, .int .i64 x4_0.x_.I, .int .i64 x4_0.x_.Next, .lst 2 false (List.map enc_api_Link x4_0.x_.Links), .int .i64 x4_0.weight_]), (.tok 767, .tok 74 6 (List.map enc_law18_leaf v2_3))], fun q => loopN (fun (s : Int) => law18_merged_l6s x4_0 v2_3 v2_9 s) q.2 q.1 = some x1, fun q => q.2⟩ (And.intro (Exists.intro [] (Exists.intro [] (Exists.intro ((0:Int), n2) (And.intro h (And.intro rfl (And.intro rfl (And.intro ff (And.intro rfl (And.intro rfl (And.intro rfl (And.intro rfl (And.intro rfl (And.intro rfl (And.intro rfl (And.intro ff (And.intro rfl (And.intro rfl (And.intro rfl trivial)))))))))))))))))) ?_)
    clear h
    refine fun q h => ?_
    obtain ⟨v6_6, n2⟩ := q
    obtain ⟨m2, x2, hm2, h, hl2, hr2⟩ := loopN_step h
    replace hm2 : n2 = m2 + 1 := hm2
    subst hm2
    replace h : law18_merged_l6s x4_0 v2_3 v2_9 v6_6 = some x2 := h
    delta law18_merged_l6s at h
    refine Exists.intro none ?_
    obtain ⟨x6_7, e6_7, h⟩ := bS h
    obtain ⟨x6_9, e6_9, h⟩ := bS h
    obtain ⟨y6_12, e6_12, h⟩ := bS h
    refine Exists.intro (some (⟨Unit, fun _ => [(.tmp 3, .av (.own 767)), (.tmp 5, .av (.ptr 1026 0)), (.tmp 6, .av (.int .i64 v6_6)), (.tmp 7, .av (.lst 6 false (List.map enc_law18_leaf p0))), (.tmp 8, .av (.int .i64 (p0.length : Int))), (.tmp 9, .av (.int .i64 v2_9)), (.tmp 27, .av (.sb ((decide (v6_6 < (v2_3.length : Int))) && (!y6_12)))), (.box 1026, .box [.int .i64 x4_0.x_.W, .int .i64 x4_0.x_.Cap, .int .i64 x4_0.x_.I, .int .i64 x4_0.x_.Next, .lst 2 false (List.map enc_api_Link x4_0.x_.Links), .int .i64 x4_0.weight_]), (.tok 767, .tok 74 6 (List.map enc_law18_leaf v2_3))], fun _ => True, fun _ => 0⟩, 1000000)) (And.intro ?_ (fun _ _ => ?_))
    · skip
      refine Exists.intro [.int .i64 (v2_3.length : Int)] (And.intro (lenS enc_law18_leaf v2_3) ?_)
      refine And.intro (fun g2 => ?_) (fun g2 => ?_)
      · skip
        refine And.intro (idx_lt enc_law18_leaf (gdT g2 e6_7)) ?_
        refine Exists.intro [.int .i64 x6_9.x_.W, .int .i64 x6_9.x_.Cap, .int .i64 x6_9.x_.I, .int .i64 x6_9.x_.Next, .lst 2 false (List.map enc_api_Link x6_9.x_.Links), .int .i64 x6_9.weight_] (And.intro (idx_elt enc_law18_leaf (gdT g2 e6_9)) ?_)
        refine Exists.intro _ (Exists.intro _ (And.intro (Contract.wk (c_ref18_Same x6_9.x_ x4_0.x_ y6_12 (gdT g2 e6_12)) (And.intro rfl (And.intro rfl (And.intro rfl (And.intro rfl (And.intro ff (And.intro rfl (And.intro rfl (And.intro rfl (And.intro rfl (And.intro rfl (And.intro ff (And.intro rfl trivial))))))))))))) (And.intro rfl ?_)))
        exact Exists.intro [] (Exists.intro [] (Exists.intro () (And.intro trivial (And.intro rfl (And.intro rfl (And.intro ff (And.intro rfl (And.intro rfl (And.intro rfl (And.intro (Eq.symm (aR g2 rfl)) (And.intro rfl (And.intro rfl (And.intro rfl (And.intro rfl (And.intro ff (And.intro rfl (And.intro rfl (And.intro rfl trivial))))))))))))))))))
      · skip
        exact Exists.intro [] (Exists.intro [] (Exists.intro () (And.intro trivial (And.intro rfl (And.intro rfl (And.intro ff (And.intro rfl (And.intro rfl (And.intro rfl (And.intro (Eq.symm (aL g2)) (And.intro rfl (And.intro rfl (And.intro rfl (And.intro rfl (And.intro ff (And.intro rfl (And.intro rfl (And.intro rfl trivial))))))))))))))))))
    · skip
      refine And.intro (fun g3 => ?_) (fun g3 => ?_)
      · skip
        replace h := cT g3 h
        refine Exists.intro none ?_
        exact Exists.intro [] (Exists.intro [] (Exists.intro ((w64 (v6_6 + (1:Int))), m2) (And.intro (hl2 (w64 (v6_6 + (1:Int))) (Option.some.inj h).symm) (And.intro (Nat.lt_succ_self m2) (And.intro rfl (And.intro rfl (And.intro ff (And.intro rfl (And.intro rfl (And.intro rfl (And.intro rfl (And.intro rfl (And.intro rfl (And.intro rfl (And.intro ff (And.intro rfl (And.intro rfl (And.intro rfl trivial))))))))))))))))))
      · skip
        replace h := cF g3 h
        replace h := popS h hr2
        refine Exists.intro none ?_
        refine Exists.intro [.int .i64 (v2_3.length : Int)] (And.intro (lenS enc_law18_leaf v2_3) ?_)
        refine Exists.intro none ?_
        refine And.intro (fun g4 => ?_) (fun g4 => ?_)
        · skip
          replace h := cT g4 h
          refine Exists.intro none ?_
          obtain ⟨k9_3, h⟩ := ckS h
          refine And.intro (by have hh := (of_decide_eq_true k9_3); (try simp only [fixRows_length, List.length_map, List.length_append, List.length_take, List.length_drop, List.length_set, List.length_replicate, List.length_cons, List.length_nil] at hh); (try simp only [fixRows_length, List.length_map, List.length_append, List.length_take, List.length_drop, List.length_set, List.length_replicate, List.length_cons, List.length_nil]); omega) ?_
          refine Exists.intro none ?_
          exact Exists.intro [(767, some 1000259)] (Exists.intro [] (Exists.intro (((v2_3 ++ [x4_0]), (w64 (v2_9 + (1:Int)))), m1) (And.intro (hl1 ((v2_3 ++ [x4_0]), (w64 (v2_9 + (1:Int)))) (Option.some.inj h).symm) (And.intro (Nat.lt_succ_self m1) (And.intro rfl (And.intro ff (And.intro rfl (And.intro rfl (And.intro rfl (And.intro (by first | rfl | (simp only [List.map_append, List.map_cons, List.map_nil, List.map_take, List.map_drop, List.map_set, List.map_replicate]; done) | (simp only [List.map_append, List.map_cons, List.map_nil, List.map_take, List.map_drop, List.map_set, List.map_replicate]; rfl) | (simp only [List.map_append, List.map_cons, List.map_nil, List.map_take, List.map_drop, List.map_set, List.map_replicate, eL, enc_api_Recent, enc_api_Chain, enc_chain_source, enc_made_Tape, enc_law18_leaf]; done) | (simp only [List.map_append, List.map_cons, List.map_nil, List.map_take, List.map_drop, List.map_set, List.map_replicate, eL, enc_api_Recent, enc_api_Chain, enc_chain_source, enc_made_Tape, enc_law18_leaf]; rfl)) trivial))))))))))
        · skip
          replace h := cF g4 h
          refine Exists.intro none ?_
          obtain ⟨x10_4, e10_4, h⟩ := bS h
          obtain ⟨x10_6, e10_6, h⟩ := bS h
          obtain ⟨x10_10, e10_10, h⟩ := bS h
          obtain ⟨x10_12, e10_12, h⟩ := bS h
          refine And.intro (idx_lt enc_law18_leaf e10_4) ?_
          refine Exists.intro [.int .i64 x10_6.x_.W, .int .i64 x10_6.x_.Cap, .int .i64 x10_6.x_.I, .int .i64 x10_6.x_.Next, .lst 2 false (List.map enc_api_Link x10_6.x_.Links), .int .i64 x10_6.weight_] (And.intro (idx_elt enc_law18_leaf e10_6) ?_)
          refine And.intro (idx_lt enc_law18_leaf e10_10) ?_
          refine Exists.intro [.int .i64 x10_12.x_.W, .int .i64 x10_12.x_.Cap, .int .i64 x10_12.x_.I, .int .i64 x10_12.x_.Next, .lst 2 false (List.map enc_api_Link x10_12.x_.Links), .int .i64 x10_12.weight_] (And.intro (idx_elt enc_law18_leaf e10_12) ?_)
          refine Exists.intro none ?_
          exact Exists.intro [] (Exists.intro [] (Exists.intro (((v2_3.set (v6_6).toNat (law18_leaf.mk x10_12.x_ (w64 (x10_6.weight_ + x4_0.weight_)))), (w64 (v2_9 + (1:Int)))), m1) (And.intro (hl1 ((v2_3.set (v6_6).toNat (law18_leaf.mk x10_12.x_ (w64 (x10_6.weight_ + x4_0.weight_)))), (w64 (v2_9 + (1:Int)))) (Option.some.inj h).symm) (And.intro (Nat.lt_succ_self m1) (And.intro rfl (And.intro ff (And.intro rfl (And.intro rfl (And.intro rfl (And.intro (by first | rfl | (simp only [List.map_append, List.map_cons, List.map_nil, List.map_take, List.map_drop, List.map_set, List.map_replicate]; done) | (simp only [List.map_append, List.map_cons, List.map_nil, List.map_take, List.map_drop, List.map_set, List.map_replicate]; rfl) | (simp only [List.map_append, List.map_cons, List.map_nil, List.map_take, List.map_drop, List.map_set, List.map_replicate, eL, enc_api_Recent, enc_api_Chain, enc_chain_source, enc_made_Tape, enc_law18_leaf]; done) | (simp only [List.map_append, List.map_cons, List.map_nil, List.map_take, List.map_drop, List.map_set, List.map_replicate, eL, enc_api_Recent, enc_api_Chain, enc_chain_source, enc_made_Tape, enc_law18_leaf]; rfl)) trivial))))))))))
  · skip
    replace h := cF g1 h
    replace h := popS h hr1
    refine Exists.intro none ?_
    replace h := Option.some.inj h
    subst h
    exact (And.intro ff (And.intro rfl trivial))

theorem c_law18_grow (p0 : (List law18_leaf)) (p1 : Int) (r : ((List law18_leaf) × Bool)) (h : law18_grow p0 p1 = some r) : Contract Try.prog 54 [.lst 6 false (List.map enc_law18_leaf p0), .int .i64 p1] [] (.tup [.lst 6 false (List.map enc_law18_leaf r.1), .sb r.2]) [] := by
  refine contract_of_vcs tab_ok orders_ok Try.func54 Try.call54 (by kernel_rfl) 0 rfl rfl _ rfl ?_
  delta law18_grow at h
  refine Exists.intro none ?_
  refine Exists.intro none ?_
  refine Exists.intro [.int .i64 (p0.length : Int)] (And.intro (lenS enc_law18_leaf p0) ?_)
  replace h : law18_grow_l2 p0 p1 ([] : List law18_leaf) (0:Int) = some r := h
  delta law18_grow_l2 at h
  obtain ⟨n1, h⟩ := loopS h
  refine Exists.intro ⟨((List law18_leaf) × Int) × Nat, fun q => [(.tmp 1, .av (.int .i64 p1)), (.tmp 4, .av (.own 511)), (.tmp 18, .av (.lst 6 false (List.map enc_law18_leaf p0))), (.tmp 19, .av (.int .i64 (p0.length : Int))), (.tmp 20, .av (.int .i64 q.1.2)), (.tok 511, .tok 74 6 (List.map enc_law18_leaf q.1.1))], fun q => loopN (fun (s : ((List law18_leaf) × Int)) => law18_grow_l2s p0 p1 s.1 s.2) q.2 q.1 = some r, fun q => q.2⟩ (And.intro (Exists.intro [(511, none)] (Exists.intro [] (Exists.intro ((([] : List law18_leaf), (0:Int)), n1) (And.intro h (And.intro rfl (And.intro rfl (And.intro ff (And.intro rfl (And.intro rfl (And.intro rfl (And.intro rfl trivial))))))))))) ?_)
  clear h
  refine fun q h => ?_
  obtain ⟨⟨v2_4, v2_20⟩, n1⟩ := q
  obtain ⟨m1, x1, hm1, h, hl1, hr1⟩ := loopN_step h
  replace hm1 : n1 = m1 + 1 := hm1
  subst hm1
  replace h : law18_grow_l2s p0 p1 v2_4 v2_20 = some x1 := h
  delta law18_grow_l2s at h
  refine Exists.intro none ?_
  refine And.intro (fun g1 => ?_) (fun g1 => ?_)
  · skip
    replace h := cT g1 h
    refine Exists.intro none ?_
    obtain ⟨x3_0, e3_0, h⟩ := bS h
    refine Exists.intro [.int .i64 x3_0.x_.W, .int .i64 x3_0.x_.Cap, .int .i64 x3_0.x_.I, .int .i64 x3_0.x_.Next, .lst 2 false (List.map enc_api_Link x3_0.x_.Links), .int .i64 x3_0.weight_] (And.intro (idx_map enc_law18_leaf e3_0) ?_)
    refine Exists.intro none ?_
    refine Exists.intro none ?_
    replace h : law18_grow_l6 x3_0 v2_20 v2_4 [([] : List Int)] [(w64 (x3_0.weight_ * p1))] = some x1 := h
    delta law18_grow_l6 at h
    obtain ⟨n2, h⟩ := loopS h
    refine Exists.intro ⟨((List law18_leaf) × (List (List Int)) × (List Int)) × Nat, fun q => [(.tmp 1, .av (.int .i64 p1)), (.tmp 4, .av (.own 511)), (.tmp 7, .av (.ptr 770 0)), (.tmp 8, .av (.own 1024)), (.tmp 9, .av (.own 1284)), (.tmp 18, .av (.lst 6 false (List.map enc_law18_leaf p0))), (.tmp 19, .av (.int .i64 (p0.length : Int))), (.tmp 20, .av (.int .i64 v2_20)), (.box 770, .box [.int .i64 x3_0.x_.W, .int .i64 x3_0.x_.Cap, .int .i64 x3_0.x_.I, .int .i64 x3_0.x_.Next, .lst 2 false (List.map enc_api_Link x3_0.x_.Links), .int .i64 x3_0.weight_]), (.tok 511, .tok 74 6 (List.map enc_law18_leaf q.1.1)), (.tok 1024, .tok 60 1 (List.map (eL 1 (eI .i64)) q.1.2.1)), (.tok 1284, .tok 2 1 (List.map (eI .i64) q.1.2.2))], fun q => loopN (fun (s : ((List law18_leaf) × (List (List Int)) × (List Int))) => law18_grow_l6s x3_0 v2_20 s.1 s.2.1 s.2.2) q.2 q.1 = some x1, fun q => q.2⟩ (And.intro (Exists.intro [] (Exists.intro [] (Exists.intro ((v2_4, [([] : List Int)], [(w64 (x3_0.weight_ * p1))]), n2) (And.intro h (And.intro rfl (And.intro rfl (And.intro ff (And.intro rfl (And.intro rfl (And.intro rfl (And.intro rfl (And.intro rfl (And.intro rfl (And.intro rfl (And.intro ff (And.intro rfl (And.intro rfl (And.intro rfl (And.intro (by first | rfl | (simp only [List.map_append, List.map_cons, List.map_nil, List.map_take, List.map_drop, List.map_set, List.map_replicate]; done) | (simp only [List.map_append, List.map_cons, List.map_nil, List.map_take, List.map_drop, List.map_set, List.map_replicate]; rfl) | (simp only [List.map_append, List.map_cons, List.map_nil, List.map_take, List.map_drop, List.map_set, List.map_replicate, eL, enc_api_Recent, enc_api_Chain, enc_chain_source, enc_made_Tape, enc_law18_leaf]; done) | (simp only [List.map_append, List.map_cons, List.map_nil, List.map_take, List.map_drop, List.map_set, List.map_replicate, eL, enc_api_Recent, enc_api_Chain, enc_chain_source, enc_made_Tape, enc_law18_leaf]; rfl)) (And.intro (by first | rfl | (simp only [List.map_append, List.map_cons, List.map_nil, List.map_take, List.map_drop, List.map_set, List.map_replicate]; done) | (simp only [List.map_append, List.map_cons, List.map_nil, List.map_take, List.map_drop, List.map_set, List.map_replicate]; rfl) | (simp only [List.map_append, List.map_cons, List.map_nil, List.map_take, List.map_drop, List.map_set, List.map_replicate, eL, enc_api_Recent, enc_api_Chain, enc_chain_source, enc_made_Tape, enc_law18_leaf]; done) | (simp only [List.map_append, List.map_cons, List.map_nil, List.map_take, List.map_drop, List.map_set, List.map_replicate, eL, enc_api_Recent, enc_api_Chain, enc_chain_source, enc_made_Tape, enc_law18_leaf]; rfl)) trivial)))))))))))))))))))) ?_)
    clear h
    refine fun q h => ?_
    obtain ⟨⟨v6_4, v6_8, v6_9⟩, n2⟩ := q
    obtain ⟨m2, x2, hm2, h, hl2, hr2⟩ := loopN_step h
    replace hm2 : n2 = m2 + 1 := hm2
    subst hm2
    replace h : law18_grow_l6s x3_0 v2_20 v6_4 v6_8 v6_9 = some x2 := h
    delta law18_grow_l6s at h
    refine Exists.intro none ?_
    refine Exists.intro [.int .i64 (v6_8.length : Int)] (And.intro (lenS (eL 1 (eI .i64)) v6_8) ?_)
    refine And.intro (fun g2 => ?_) (fun g2 => ?_)
    · skip
      replace h := cT g2 h
      refine Exists.intro none ?_
      refine Exists.intro none ?_
      obtain ⟨x7_4, e7_4, h⟩ := bS h
      obtain ⟨x7_5, e7_5, h⟩ := bS h
      obtain ⟨x7_10, e7_10, h⟩ := bS h
      obtain ⟨x7_11, e7_11, h⟩ := bS h
      refine Exists.intro [.int .i64 (v6_8.length : Int)] (And.intro (lenS (eL 1 (eI .i64)) v6_8) ?_)
      refine And.intro (idx_lt (eL 1 (eI .i64)) e7_4) ?_
      refine Exists.intro [.lst 1 false (List.map (eI .i64) x7_5)] (And.intro (idx_elt (eL 1 (eI .i64)) e7_5) ?_)
      refine Exists.intro [.int .i64 (v6_9.length : Int)] (And.intro (lenS (eI .i64) v6_9) ?_)
      refine And.intro (idx_lt (eI .i64) e7_10) ?_
      refine Exists.intro [.int .i64 x7_11] (And.intro (idx_elt (eI .i64) e7_11) ?_)
      refine Exists.intro none ?_
      obtain ⟨k8_4, h⟩ := ckS h
      obtain ⟨k8_9, h⟩ := ckS h
      refine Exists.intro [.int .i64 (v6_8.length : Int)] (And.intro (lenS (eL 1 (eI .i64)) v6_8) ?_)
      refine And.intro (by have hh := (of_decide_eq_true k8_4); (try simp only [fixRows_length, List.length_map, List.length_append, List.length_take, List.length_drop, List.length_set, List.length_replicate, List.length_cons, List.length_nil] at hh); (try simp only [fixRows_length, List.length_map, List.length_append, List.length_take, List.length_drop, List.length_set, List.length_replicate, List.length_cons, List.length_nil]); omega) ?_
      refine Exists.intro [.int .i64 (v6_9.length : Int)] (And.intro (lenS (eI .i64) v6_9) ?_)
      refine And.intro (by have hh := (of_decide_eq_true k8_9); (try simp only [fixRows_length, List.length_map, List.length_append, List.length_take, List.length_drop, List.length_set, List.length_replicate, List.length_cons, List.length_nil] at hh); (try simp only [fixRows_length, List.length_map, List.length_append, List.length_take, List.length_drop, List.length_set, List.length_replicate, List.length_cons, List.length_nil]); omega) ?_
      refine Exists.intro none ?_
      obtain ⟨y9_3, e9_3, h⟩ := bS h
      refine Exists.intro _ (Exists.intro _ (And.intro (Contract.wk (c_chain_Needs x3_0.x_ (0:Int) x7_5 (0:Int) y9_3 e9_3) (And.intro rfl (And.intro rfl (And.intro rfl (And.intro rfl (And.intro ff (And.intro rfl (And.intro rfl (And.intro ff (And.intro rfl (And.intro rfl trivial))))))))))) (And.intro rfl ?_)))
      refine Exists.intro none ?_
      refine And.intro (fun g3 => ?_) (fun g3 => ?_)
      · skip
        replace h := cT g3 h
        refine Exists.intro none ?_
        obtain ⟨y11_3, e11_3, h⟩ := bS h
        refine Exists.intro _ (Exists.intro _ (And.intro (Contract.wk (c_chain_Add x3_0.x_ (0:Int) x7_5 (0:Int) y11_3 e11_3) (And.intro rfl (And.intro rfl (And.intro rfl (And.intro rfl (And.intro ff (And.intro rfl (And.intro rfl (And.intro ff (And.intro rfl (And.intro rfl trivial))))))))))) (And.intro rfl ?_)))
        refine Exists.intro none ?_
        refine Exists.intro none ?_
        refine And.intro (fun g4 => ?_) (fun g4 => ?_)
        · skip
          refine Exists.intro [.int .i64 (x7_5.length : Int)] (And.intro (lenS (eI .i64) x7_5) ?_)
          refine And.intro (fun g5 => ?_) (fun g5 => ?_)
          · skip
            replace h := cT (oR g4 g5) h
            refine Exists.intro none ?_
            replace h := retS h hr2
            replace h := retT h hr1
            subst h
            exact (And.intro rfl (And.intro rfl trivial))
          · skip
            replace h := cF (oR g4 g5) h
            refine Exists.intro none ?_
            obtain ⟨k14_5, h⟩ := ckS h
            refine And.intro (by have hh := (of_decide_eq_true k14_5); (try simp only [fixRows_length, List.length_map, List.length_append, List.length_take, List.length_drop, List.length_set, List.length_replicate, List.length_cons, List.length_nil] at hh); (try simp only [fixRows_length, List.length_map, List.length_append, List.length_take, List.length_drop, List.length_set, List.length_replicate, List.length_cons, List.length_nil]); omega) ?_
            exact Exists.intro [(511, some 3333), (1024, some 2052), (1284, some 2057)] (Exists.intro [] (Exists.intro (((v6_4 ++ [(law18_leaf.mk y11_3.1 x7_11)]), (v6_8.take ((w64 ((v6_8.length : Int) - (1:Int)))).toNat), (v6_9.take ((w64 ((v6_9.length : Int) - (1:Int)))).toNat)), m2) (And.intro (hl2 ((v6_4 ++ [(law18_leaf.mk y11_3.1 x7_11)]), (v6_8.take ((w64 ((v6_8.length : Int) - (1:Int)))).toNat), (v6_9.take ((w64 ((v6_9.length : Int) - (1:Int)))).toNat)) (Option.some.inj h).symm) (And.intro (Nat.lt_succ_self m2) (And.intro rfl (And.intro rfl (And.intro ff (And.intro rfl (And.intro rfl (And.intro rfl (And.intro rfl (And.intro rfl (And.intro rfl (And.intro rfl (And.intro ff (And.intro rfl (And.intro rfl (And.intro (by first | rfl | (simp only [List.map_append, List.map_cons, List.map_nil, List.map_take, List.map_drop, List.map_set, List.map_replicate]; done) | (simp only [List.map_append, List.map_cons, List.map_nil, List.map_take, List.map_drop, List.map_set, List.map_replicate]; rfl) | (simp only [List.map_append, List.map_cons, List.map_nil, List.map_take, List.map_drop, List.map_set, List.map_replicate, eL, enc_api_Recent, enc_api_Chain, enc_chain_source, enc_made_Tape, enc_law18_leaf]; done) | (simp only [List.map_append, List.map_cons, List.map_nil, List.map_take, List.map_drop, List.map_set, List.map_replicate, eL, enc_api_Recent, enc_api_Chain, enc_chain_source, enc_made_Tape, enc_law18_leaf]; rfl)) (And.intro (by first | rfl | (simp only [List.map_append, List.map_cons, List.map_nil, List.map_take, List.map_drop, List.map_set, List.map_replicate]; done) | (simp only [List.map_append, List.map_cons, List.map_nil, List.map_take, List.map_drop, List.map_set, List.map_replicate]; rfl) | (simp only [List.map_append, List.map_cons, List.map_nil, List.map_take, List.map_drop, List.map_set, List.map_replicate, eL, enc_api_Recent, enc_api_Chain, enc_chain_source, enc_made_Tape, enc_law18_leaf]; done) | (simp only [List.map_append, List.map_cons, List.map_nil, List.map_take, List.map_drop, List.map_set, List.map_replicate, eL, enc_api_Recent, enc_api_Chain, enc_chain_source, enc_made_Tape, enc_law18_leaf]; rfl)) (And.intro (by first | rfl | (simp only [List.map_append, List.map_cons, List.map_nil, List.map_take, List.map_drop, List.map_set, List.map_replicate]; done) | (simp only [List.map_append, List.map_cons, List.map_nil, List.map_take, List.map_drop, List.map_set, List.map_replicate]; rfl) | (simp only [List.map_append, List.map_cons, List.map_nil, List.map_take, List.map_drop, List.map_set, List.map_replicate, eL, enc_api_Recent, enc_api_Chain, enc_chain_source, enc_made_Tape, enc_law18_leaf]; done) | (simp only [List.map_append, List.map_cons, List.map_nil, List.map_take, List.map_drop, List.map_set, List.map_replicate, eL, enc_api_Recent, enc_api_Chain, enc_chain_source, enc_made_Tape, enc_law18_leaf]; rfl)) trivial))))))))))))))))))))
        · skip
          replace h := cT (oL g4) h
          refine Exists.intro none ?_
          replace h := retS h hr2
          replace h := retT h hr1
          subst h
          exact (And.intro rfl (And.intro rfl trivial))
      · skip
        replace h := cF g3 h
        refine Exists.intro none ?_
        refine Exists.intro none ?_
        refine And.intro (fun g6 => ?_) (fun g6 => ?_)
        · skip
          refine And.intro (fun g7 => ?_) (fun g7 => ?_)
          · skip
            refine Exists.intro [.int .i64 (x7_5.length : Int)] (And.intro (lenS (eI .i64) x7_5) ?_)
            refine And.intro (fun g8 => ?_) (fun g8 => ?_)
            · skip
              replace h := cT (oR (oR g6 g7) g8) h
              refine Exists.intro none ?_
              replace h := retS h hr2
              replace h := retT h hr1
              subst h
              exact (And.intro rfl (And.intro rfl trivial))
            · skip
              replace h := cF (oR (oR g6 g7) g8) h
              refine Exists.intro none ?_
              replace h : law18_grow_l13 x7_5 x7_11 y9_3 v6_4 (v6_8.take ((w64 ((v6_8.length : Int) - (1:Int)))).toNat) (v6_9.take ((w64 ((v6_9.length : Int) - (1:Int)))).toNat) (0:Int) = some x2 := h
              delta law18_grow_l13 at h
              obtain ⟨n3, h⟩ := loopS h
              refine Exists.intro ⟨((List (List Int)) × (List Int) × Int) × Nat, fun q => [(.tmp 1, .av (.int .i64 p1)), (.tmp 4, .av (.own 511)), (.tmp 7, .av (.ptr 770 0)), (.tmp 8, .av (.own 2052)), (.tmp 9, .av (.own 2057)), (.tmp 10, .av (.lst 1 false (List.map (eI .i64) x7_5))), (.tmp 11, .av (.int .i64 x7_11)), (.tmp 12, .av (.int .i64 y9_3.1)), (.tmp 17, .av (.int .i64 q.1.2.2)), (.tmp 18, .av (.lst 6 false (List.map enc_law18_leaf p0))), (.tmp 19, .av (.int .i64 (p0.length : Int))), (.tmp 20, .av (.int .i64 v2_20)), (.box 770, .box [.int .i64 x3_0.x_.W, .int .i64 x3_0.x_.Cap, .int .i64 x3_0.x_.I, .int .i64 x3_0.x_.Next, .lst 2 false (List.map enc_api_Link x3_0.x_.Links), .int .i64 x3_0.weight_]), (.tok 511, .tok 74 6 (List.map enc_law18_leaf v6_4)), (.tok 2052, .tok 60 1 (List.map (eL 1 (eI .i64)) q.1.1)), (.tok 2057, .tok 2 1 (List.map (eI .i64) q.1.2.1))], fun q => loopN (fun (s : ((List (List Int)) × (List Int) × Int)) => law18_grow_l13s x7_5 x7_11 y9_3 v6_4 s.1 s.2.1 s.2.2) q.2 q.1 = some x2, fun q => q.2⟩ (And.intro (Exists.intro [] (Exists.intro [] (Exists.intro (((v6_8.take ((w64 ((v6_8.length : Int) - (1:Int)))).toNat), (v6_9.take ((w64 ((v6_9.length : Int) - (1:Int)))).toNat), (0:Int)), n3) (And.intro h (And.intro rfl (And.intro rfl (And.intro ff (And.intro rfl (And.intro rfl (And.intro rfl (And.intro rfl (And.intro ff (And.intro rfl (And.intro rfl (And.intro rfl (And.intro rfl (And.intro rfl (And.intro rfl (And.intro rfl (And.intro ff (And.intro rfl (And.intro rfl (And.intro rfl (And.intro (by first | rfl | (simp only [List.map_append, List.map_cons, List.map_nil, List.map_take, List.map_drop, List.map_set, List.map_replicate]; done) | (simp only [List.map_append, List.map_cons, List.map_nil, List.map_take, List.map_drop, List.map_set, List.map_replicate]; rfl) | (simp only [List.map_append, List.map_cons, List.map_nil, List.map_take, List.map_drop, List.map_set, List.map_replicate, eL, enc_api_Recent, enc_api_Chain, enc_chain_source, enc_made_Tape, enc_law18_leaf]; done) | (simp only [List.map_append, List.map_cons, List.map_nil, List.map_take, List.map_drop, List.map_set, List.map_replicate, eL, enc_api_Recent, enc_api_Chain, enc_chain_source, enc_made_Tape, enc_law18_leaf]; rfl)) (And.intro (by first | rfl | (simp only [List.map_append, List.map_cons, List.map_nil, List.map_take, List.map_drop, List.map_set, List.map_replicate]; done) | (simp only [List.map_append, List.map_cons, List.map_nil, List.map_take, List.map_drop, List.map_set, List.map_replicate]; rfl) | (simp only [List.map_append, List.map_cons, List.map_nil, List.map_take, List.map_drop, List.map_set, List.map_replicate, eL, enc_api_Recent, enc_api_Chain, enc_chain_source, enc_made_Tape, enc_law18_leaf]; done) | (simp only [List.map_append, List.map_cons, List.map_nil, List.map_take, List.map_drop, List.map_set, List.map_replicate, eL, enc_api_Recent, enc_api_Chain, enc_chain_source, enc_made_Tape, enc_law18_leaf]; rfl)) trivial))))))))))))))))))))))))) ?_)
              clear h
              refine fun q h => ?_
              obtain ⟨⟨v13_8, v13_9, v13_17⟩, n3⟩ := q
              obtain ⟨m3, x3, hm3, h, hl3, hr3⟩ := loopN_step h
              replace hm3 : n3 = m3 + 1 := hm3
              subst hm3
              replace h : law18_grow_l13s x7_5 x7_11 y9_3 v6_4 v13_8 v13_9 v13_17 = some x3 := h
              delta law18_grow_l13s at h
              refine Exists.intro none ?_
              refine And.intro (fun g9 => ?_) (fun g9 => ?_)
              · skip
                replace h := cT g9 h
                refine Exists.intro none ?_
                obtain ⟨k20_3, h⟩ := ckS h
                obtain ⟨k20_6, h⟩ := ckS h
                obtain ⟨k20_8, h⟩ := ckS h
                obtain ⟨k20_12, h⟩ := ckS h
                obtain ⟨k20_14, h⟩ := ckS h
                refine And.intro (by have hh := (of_decide_eq_true k20_3); (try simp only [fixRows_length, List.length_map, List.length_append, List.length_take, List.length_drop, List.length_set, List.length_replicate, List.length_cons, List.length_nil] at hh); (try simp only [fixRows_length, List.length_map, List.length_append, List.length_take, List.length_drop, List.length_set, List.length_replicate, List.length_cons, List.length_nil]); omega) ?_
                refine And.intro (by have hh := (of_decide_eq_true k20_6); (try simp only [fixRows_length, List.length_map, List.length_append, List.length_take, List.length_drop, List.length_set, List.length_replicate, List.length_cons, List.length_nil] at hh); (try simp only [fixRows_length, List.length_map, List.length_append, List.length_take, List.length_drop, List.length_set, List.length_replicate, List.length_cons, List.length_nil]); omega) ?_
                refine And.intro (by have hh := (of_decide_eq_true k20_8); (try simp only [fixRows_length, List.length_map, List.length_append, List.length_take, List.length_drop, List.length_set, List.length_replicate, List.length_cons, List.length_nil] at hh); (try simp only [fixRows_length, List.length_map, List.length_append, List.length_take, List.length_drop, List.length_set, List.length_replicate, List.length_cons, List.length_nil]); omega) ?_
                refine And.intro (of_decide_eq_true k20_12) ?_
                refine And.intro (by have hh := (of_decide_eq_true k20_14); (try simp only [fixRows_length, List.length_map, List.length_append, List.length_take, List.length_drop, List.length_set, List.length_replicate, List.length_cons, List.length_nil] at hh); (try simp only [fixRows_length, List.length_map, List.length_append, List.length_take, List.length_drop, List.length_set, List.length_replicate, List.length_cons, List.length_nil]); omega) ?_
                refine Exists.intro none ?_
                exact Exists.intro [(2052, some 3592), (2057, some 3598)] (Exists.intro [] (Exists.intro (((v13_8 ++ [((([] : List Int) ++ x7_5) ++ [v13_17])]), (v13_9 ++ [(w64 (Int.tdiv x7_11 y9_3.1))]), (w64 (v13_17 + (1:Int)))), m3) (And.intro (hl3 ((v13_8 ++ [((([] : List Int) ++ x7_5) ++ [v13_17])]), (v13_9 ++ [(w64 (Int.tdiv x7_11 y9_3.1))]), (w64 (v13_17 + (1:Int)))) (Option.some.inj h).symm) (And.intro (Nat.lt_succ_self m3) (And.intro rfl (And.intro rfl (And.intro ff (And.intro rfl (And.intro rfl (And.intro rfl (And.intro rfl (And.intro ff (And.intro rfl (And.intro rfl (And.intro rfl (And.intro rfl (And.intro rfl (And.intro rfl (And.intro rfl (And.intro ff (And.intro rfl (And.intro rfl (And.intro rfl (And.intro (by first | rfl | (simp only [List.map_append, List.map_cons, List.map_nil, List.map_take, List.map_drop, List.map_set, List.map_replicate]; done) | (simp only [List.map_append, List.map_cons, List.map_nil, List.map_take, List.map_drop, List.map_set, List.map_replicate]; rfl) | (simp only [List.map_append, List.map_cons, List.map_nil, List.map_take, List.map_drop, List.map_set, List.map_replicate, eL, enc_api_Recent, enc_api_Chain, enc_chain_source, enc_made_Tape, enc_law18_leaf]; done) | (simp only [List.map_append, List.map_cons, List.map_nil, List.map_take, List.map_drop, List.map_set, List.map_replicate, eL, enc_api_Recent, enc_api_Chain, enc_chain_source, enc_made_Tape, enc_law18_leaf]; rfl)) (And.intro (by first | rfl | (simp only [List.map_append, List.map_cons, List.map_nil, List.map_take, List.map_drop, List.map_set, List.map_replicate]; done) | (simp only [List.map_append, List.map_cons, List.map_nil, List.map_take, List.map_drop, List.map_set, List.map_replicate]; rfl) | (simp only [List.map_append, List.map_cons, List.map_nil, List.map_take, List.map_drop, List.map_set, List.map_replicate, eL, enc_api_Recent, enc_api_Chain, enc_chain_source, enc_made_Tape, enc_law18_leaf]; done) | (simp only [List.map_append, List.map_cons, List.map_nil, List.map_take, List.map_drop, List.map_set, List.map_replicate, eL, enc_api_Recent, enc_api_Chain, enc_chain_source, enc_made_Tape, enc_law18_leaf]; rfl)) trivial)))))))))))))))))))))))))
              · skip
                replace h := cF g9 h
                replace h := popS h hr3
                exact Exists.intro [(1024, some 2052), (1284, some 2057)] (Exists.intro [] (Exists.intro ((v6_4, v13_8, v13_9), m2) (And.intro (hl2 (v6_4, v13_8, v13_9) (Option.some.inj h).symm) (And.intro (Nat.lt_succ_self m2) (And.intro rfl (And.intro rfl (And.intro ff (And.intro rfl (And.intro rfl (And.intro rfl (And.intro rfl (And.intro rfl (And.intro rfl (And.intro rfl (And.intro ff (And.intro rfl (And.intro rfl (And.intro rfl (And.intro rfl (And.intro rfl trivial))))))))))))))))))))
          · skip
            replace h := cT (oL (oR g6 g7)) h
            refine Exists.intro none ?_
            replace h := retS h hr2
            replace h := retT h hr1
            subst h
            exact (And.intro rfl (And.intro rfl trivial))
        · skip
          replace h := cT (oL (oL g6)) h
          refine Exists.intro none ?_
          replace h := retS h hr2
          replace h := retT h hr1
          subst h
          exact (And.intro rfl (And.intro rfl trivial))
    · skip
      replace h := cF g2 h
      replace h := popS h hr2
      refine Exists.intro none ?_
      exact Exists.intro [] (Exists.intro [] (Exists.intro ((v6_4, (w64 (v2_20 + (1:Int)))), m1) (And.intro (hl1 (v6_4, (w64 (v2_20 + (1:Int)))) (Option.some.inj h).symm) (And.intro (Nat.lt_succ_self m1) (And.intro rfl (And.intro rfl (And.intro ff (And.intro rfl (And.intro rfl (And.intro rfl (And.intro rfl trivial)))))))))))
  · skip
    replace h := cF g1 h
    replace h := popS h hr1
    refine Exists.intro none ?_
    replace h := Option.some.inj h
    subst h
    exact (And.intro ff (And.intro rfl (And.intro rfl trivial)))

theorem c_law18_ChainUniform (p0 : Int) (p1 : Int) (r : Bool) (h : law18_ChainUniform p0 p1 = some r) : Contract Try.prog 13 [.int .i64 p0, .int .i64 p1] [] (.sb r) [] := by
  refine contract_of_vcs tab_ok orders_ok Try.func13 Try.call13 (by kernel_rfl) 0 rfl rfl _ rfl ?_
  delta law18_ChainUniform at h
  refine Exists.intro none ?_
  refine Exists.intro none ?_
  obtain ⟨y1_1, e1_1, h⟩ := bS h
  refine Exists.intro _ (Exists.intro _ (And.intro (Contract.wk (c_made_Mod p0 (3:Int) y1_1 e1_1) (And.intro rfl (And.intro rfl trivial))) (And.intro rfl ?_)))
  refine Exists.intro none ?_
  obtain ⟨y2_1, e2_1, h⟩ := bS h
  refine Exists.intro _ (Exists.intro _ (And.intro (Contract.wk (c_made_Mod p1 (4:Int) y2_1 e2_1) (And.intro rfl (And.intro rfl trivial))) (And.intro rfl ?_)))
  refine Exists.intro none ?_
  refine Exists.intro _ (Exists.intro _ (And.intro (Contract.wk (c_chain_New (w64 ((1:Int) + y1_1)) (64:Int)) (And.intro rfl (And.intro rfl trivial))) (And.intro rfl ?_)))
  refine Exists.intro none ?_
  refine And.intro (fun g1 => ?_) (fun g1 => ?_)
  · skip
    replace h := cT g1 h
    refine Exists.intro none ?_
    replace h := Option.some.inj h
    subst h
    exact (And.intro rfl trivial)
  · skip
    replace h := cF g1 h
    refine Exists.intro none ?_
    refine Exists.intro none ?_
    replace h : law18_ChainUniform_l3 y1_1 y2_1 [(law18_leaf.mk (chain_New (w64 ((1:Int) + y1_1)) (64:Int)).1 (1:Int))] (1:Int) (0:Int) = some r := h
    delta law18_ChainUniform_l3 at h
    obtain ⟨n1, h⟩ := loopS h
    refine Exists.intro ⟨((List law18_leaf) × Int × Int) × Nat, fun q => [(.tmp 0, .av (.int .i64 (w64 ((1:Int) + y1_1)))), (.tmp 1, .av (.int .i64 (w64 ((1:Int) + y2_1)))), (.tmp 7, .av (.lst 6 false (List.map enc_law18_leaf q.1.1))), (.tmp 8, .av (.int .i64 q.1.2.1)), (.tmp 9, .av (.int .i64 q.1.2.2))], fun q => loopN (fun (s : ((List law18_leaf) × Int × Int)) => law18_ChainUniform_l3s y1_1 y2_1 s.1 s.2.1 s.2.2) q.2 q.1 = some r, fun q => q.2⟩ (And.intro (Exists.intro [] (Exists.intro [1282] (Exists.intro (([(law18_leaf.mk (chain_New (w64 ((1:Int) + y1_1)) (64:Int)).1 (1:Int))], (1:Int), (0:Int)), n1) (And.intro h (And.intro rfl (And.intro rfl (And.intro rfl (And.intro ff (And.intro (by first | rfl | (simp only [List.map_append, List.map_cons, List.map_nil, List.map_take, List.map_drop, List.map_set, List.map_replicate]; done) | (simp only [List.map_append, List.map_cons, List.map_nil, List.map_take, List.map_drop, List.map_set, List.map_replicate]; rfl) | (simp only [List.map_append, List.map_cons, List.map_nil, List.map_take, List.map_drop, List.map_set, List.map_replicate, eL, enc_api_Recent, enc_api_Chain, enc_chain_source, enc_made_Tape, enc_law18_leaf]; done) | (simp only [List.map_append, List.map_cons, List.map_nil, List.map_take, List.map_drop, List.map_set, List.map_replicate, eL, enc_api_Recent, enc_api_Chain, enc_chain_source, enc_made_Tape, enc_law18_leaf]; rfl)) (And.intro rfl (And.intro rfl trivial))))))))))) ?_)
    clear h
    refine fun q h => ?_
    obtain ⟨⟨v3_7, v3_8, v3_9⟩, n1⟩ := q
    obtain ⟨m1, x1, hm1, h, hl1, hr1⟩ := loopN_step h
    replace hm1 : n1 = m1 + 1 := hm1
    subst hm1
    replace h : law18_ChainUniform_l3s y1_1 y2_1 v3_7 v3_8 v3_9 = some x1 := h
    delta law18_ChainUniform_l3s at h
    refine Exists.intro none ?_
    refine And.intro (fun g2 => ?_) (fun g2 => ?_)
    · skip
      replace h := cT g2 h
      refine Exists.intro none ?_
      obtain ⟨y10_1, e10_1, h⟩ := bS h
      obtain ⟨y10_2, e10_2, h⟩ := bS h
      refine Exists.intro _ (Exists.intro _ (And.intro (Contract.wk (c_law18_merged v3_7 y10_1 e10_1) (And.intro ff (And.intro rfl trivial))) (And.intro rfl ?_)))
      refine Exists.intro _ (Exists.intro _ (And.intro (Contract.wk (c_law18_grow y10_1 (36:Int) y10_2 e10_2) (And.intro ff (And.intro rfl (And.intro rfl trivial)))) (And.intro rfl ?_)))
      refine Exists.intro none ?_
      refine And.intro (fun g3 => ?_) (fun g3 => ?_)
      · skip
        replace h := cT g3 h
        refine Exists.intro none ?_
        replace h := retS h hr1
        subst h
        exact (And.intro rfl trivial)
      · skip
        replace h := cF g3 h
        refine Exists.intro none ?_
        refine Exists.intro none ?_
        exact Exists.intro [] (Exists.intro [] (Exists.intro ((y10_2.1, (w64 (v3_8 * (36:Int))), (w64 (v3_9 + (1:Int)))), m1) (And.intro (hl1 (y10_2.1, (w64 (v3_8 * (36:Int))), (w64 (v3_9 + (1:Int)))) (Option.some.inj h).symm) (And.intro (Nat.lt_succ_self m1) (And.intro rfl (And.intro rfl (And.intro rfl (And.intro ff (And.intro rfl (And.intro rfl (And.intro rfl trivial)))))))))))
    · skip
      replace h := cF g2 h
      replace h := popS h hr1
      refine Exists.intro none ?_
      refine Exists.intro none ?_
      obtain ⟨k15_1, h⟩ := ckS h
      refine And.intro (of_decide_eq_true k15_1) ?_
      refine Exists.intro none ?_
      refine Exists.intro [.int .i64 (v3_7.length : Int)] (And.intro (lenS enc_law18_leaf v3_7) ?_)
      replace h : law18_ChainUniform_l8 y1_1 y2_1 v3_7 v3_8 (List.replicate ((imin (w64 ((1:Int) + y1_1)) (w64 ((1:Int) + y2_1)))).toNat (0:Int)) (0:Int) = some r := h
      delta law18_ChainUniform_l8 at h
      obtain ⟨n1, h⟩ := loopS h
      refine Exists.intro ⟨((List Int) × Int) × Nat, fun q => [(.tmp 1, .av (.int .i64 (w64 ((1:Int) + y2_1)))), (.tmp 8, .av (.int .i64 v3_8)), (.tmp 12, .av (.int .i64 (imin (w64 ((1:Int) + y1_1)) (w64 ((1:Int) + y2_1))))), (.tmp 13, .av (.own 2305)), (.tmp 56, .av (.lst 6 false (List.map enc_law18_leaf v3_7))), (.tmp 57, .av (.int .i64 (v3_7.length : Int))), (.tmp 58, .av (.int .i64 q.1.2)), (.tok 2305, .tok 2 1 (List.map (eI .i64) q.1.1))], fun q => loopN (fun (s : ((List Int) × Int)) => law18_ChainUniform_l8s y1_1 y2_1 v3_7 v3_8 s.1 s.2) q.2 q.1 = some r, fun q => q.2⟩ (And.intro (Exists.intro [] (Exists.intro [] (Exists.intro (((List.replicate ((imin (w64 ((1:Int) + y1_1)) (w64 ((1:Int) + y2_1)))).toNat (0:Int)), (0:Int)), n1) (And.intro h (And.intro rfl (And.intro rfl (And.intro rfl (And.intro rfl (And.intro ff (And.intro rfl (And.intro rfl (And.intro rfl (And.intro (by first | rfl | (simp only [List.map_append, List.map_cons, List.map_nil, List.map_take, List.map_drop, List.map_set, List.map_replicate]; done) | (simp only [List.map_append, List.map_cons, List.map_nil, List.map_take, List.map_drop, List.map_set, List.map_replicate]; rfl) | (simp only [List.map_append, List.map_cons, List.map_nil, List.map_take, List.map_drop, List.map_set, List.map_replicate, eL, enc_api_Recent, enc_api_Chain, enc_chain_source, enc_made_Tape, enc_law18_leaf]; done) | (simp only [List.map_append, List.map_cons, List.map_nil, List.map_take, List.map_drop, List.map_set, List.map_replicate, eL, enc_api_Recent, enc_api_Chain, enc_chain_source, enc_made_Tape, enc_law18_leaf]; rfl)) trivial))))))))))))) ?_)
      clear h
      refine fun q h => ?_
      obtain ⟨⟨v8_13, v8_58⟩, n1⟩ := q
      obtain ⟨m1, x1, hm1, h, hl1, hr1⟩ := loopN_step h
      replace hm1 : n1 = m1 + 1 := hm1
      subst hm1
      replace h : law18_ChainUniform_l8s y1_1 y2_1 v3_7 v3_8 v8_13 v8_58 = some x1 := h
      delta law18_ChainUniform_l8s at h
      refine Exists.intro none ?_
      refine And.intro (fun g4 => ?_) (fun g4 => ?_)
      · skip
        replace h := cT g4 h
        refine Exists.intro none ?_
        obtain ⟨x18_0, e18_0, h⟩ := bS h
        refine Exists.intro [.int .i64 x18_0.x_.W, .int .i64 x18_0.x_.Cap, .int .i64 x18_0.x_.I, .int .i64 x18_0.x_.Next, .lst 2 false (List.map enc_api_Link x18_0.x_.Links), .int .i64 x18_0.weight_] (And.intro (idx_map enc_law18_leaf e18_0) ?_)
        refine Exists.intro none ?_
        refine Exists.intro [.int .i64 (x18_0.x_.Links.length : Int)] (And.intro (lenS enc_api_Link x18_0.x_.Links) ?_)
        refine And.intro (fun g5 => ?_) (fun g5 => ?_)
        · skip
          replace h := cT g5 h
          refine Exists.intro none ?_
          replace h := retS h hr1
          subst h
          exact (And.intro rfl trivial)
        · skip
          replace h := cF g5 h
          refine Exists.intro none ?_
          obtain ⟨x21_4, e21_4, h⟩ := bS h
          refine Exists.intro [.int .i64 x21_4.I, .int .i64 x21_4.V] (And.intro (idx_map enc_api_Link e21_4) ?_)
          refine Exists.intro none ?_
          refine Exists.intro none ?_
          refine And.intro (fun g6 => ?_) (fun g6 => ?_)
          · skip
            refine And.intro (fun g7 => ?_) (fun g7 => ?_)
            · skip
              replace h := cT (oR g6 g7) h
              refine Exists.intro none ?_
              replace h := retS h hr1
              subst h
              exact (And.intro rfl trivial)
            · skip
              replace h := cF (oR g6 g7) h
              refine Exists.intro none ?_
              obtain ⟨x24_4, e24_4, h⟩ := bS h
              obtain ⟨x24_5, e24_5, h⟩ := bS h
              obtain ⟨x24_9, e24_9, h⟩ := bS h
              obtain ⟨x24_10, e24_10, h⟩ := bS h
              refine And.intro (idx_lt (eI .i64) e24_4) ?_
              refine Exists.intro [.int .i64 x24_5] (And.intro (idx_elt (eI .i64) e24_5) ?_)
              refine And.intro (idx_lt (eI .i64) e24_9) ?_
              refine Exists.intro [.int .i64 x24_10] (And.intro (idx_elt (eI .i64) e24_10) ?_)
              refine Exists.intro none ?_
              exact Exists.intro [] (Exists.intro [] (Exists.intro (((v8_13.set ((w64 ((w64 ((1:Int) + y2_1)) - x21_4.I))).toNat (w64 (x24_5 + x18_0.weight_))), (w64 (v8_58 + (1:Int)))), m1) (And.intro (hl1 ((v8_13.set ((w64 ((w64 ((1:Int) + y2_1)) - x21_4.I))).toNat (w64 (x24_5 + x18_0.weight_))), (w64 (v8_58 + (1:Int)))) (Option.some.inj h).symm) (And.intro (Nat.lt_succ_self m1) (And.intro rfl (And.intro rfl (And.intro rfl (And.intro rfl (And.intro ff (And.intro rfl (And.intro rfl (And.intro rfl (And.intro (by first | rfl | (simp only [List.map_append, List.map_cons, List.map_nil, List.map_take, List.map_drop, List.map_set, List.map_replicate]; done) | (simp only [List.map_append, List.map_cons, List.map_nil, List.map_take, List.map_drop, List.map_set, List.map_replicate]; rfl) | (simp only [List.map_append, List.map_cons, List.map_nil, List.map_take, List.map_drop, List.map_set, List.map_replicate, eL, enc_api_Recent, enc_api_Chain, enc_chain_source, enc_made_Tape, enc_law18_leaf]; done) | (simp only [List.map_append, List.map_cons, List.map_nil, List.map_take, List.map_drop, List.map_set, List.map_replicate, eL, enc_api_Recent, enc_api_Chain, enc_chain_source, enc_made_Tape, enc_law18_leaf]; rfl)) trivial)))))))))))))
          · skip
            replace h := cT (oL g6) h
            refine Exists.intro none ?_
            replace h := retS h hr1
            subst h
            exact (And.intro rfl trivial)
      · skip
        replace h := cF g4 h
        replace h := popS h hr1
        refine Exists.intro none ?_
        refine Exists.intro [.int .i64 (v8_13.length : Int)] (And.intro (lenS (eI .i64) v8_13) ?_)
        replace h : law18_ChainUniform_l14 y1_1 y2_1 v3_8 v8_13 (0:Int) = some r := h
        delta law18_ChainUniform_l14 at h
        obtain ⟨n1, h⟩ := loopS h
        refine Exists.intro ⟨Int × Nat, fun q => [(.tmp 8, .av (.int .i64 v3_8)), (.tmp 12, .av (.int .i64 (imin (w64 ((1:Int) + y1_1)) (w64 ((1:Int) + y2_1))))), (.tmp 93, .av (.own 2305)), (.tmp 94, .av (.int .i64 (v8_13.length : Int))), (.tmp 95, .av (.int .i64 q.1)), (.tok 2305, .tok 2 1 (List.map (eI .i64) v8_13))], fun q => loopN (fun (s : Int) => law18_ChainUniform_l14s y1_1 y2_1 v3_8 v8_13 s) q.2 q.1 = some r, fun q => q.2⟩ (And.intro (Exists.intro [] (Exists.intro [] (Exists.intro ((0:Int), n1) (And.intro h (And.intro rfl (And.intro rfl (And.intro rfl (And.intro rfl (And.intro rfl (And.intro rfl trivial)))))))))) ?_)
        clear h
        refine fun q h => ?_
        obtain ⟨v14_95, n1⟩ := q
        obtain ⟨m1, x1, hm1, h, hl1, hr1⟩ := loopN_step h
        replace hm1 : n1 = m1 + 1 := hm1
        subst hm1
        replace h : law18_ChainUniform_l14s y1_1 y2_1 v3_8 v8_13 v14_95 = some x1 := h
        delta law18_ChainUniform_l14s at h
        refine Exists.intro none ?_
        refine And.intro (fun g8 => ?_) (fun g8 => ?_)
        · skip
          replace h := cT g8 h
          refine Exists.intro none ?_
          obtain ⟨x28_0, e28_0, h⟩ := bS h
          obtain ⟨x28_1, e28_1, h⟩ := bS h
          refine And.intro (idx_lt (eI .i64) e28_0) ?_
          refine Exists.intro [.int .i64 x28_1] (And.intro (idx_elt (eI .i64) e28_1) ?_)
          refine Exists.intro none ?_
          refine And.intro (fun g9 => ?_) (fun g9 => ?_)
          · skip
            replace h := cT g9 h
            refine Exists.intro none ?_
            replace h := retS h hr1
            subst h
            exact (And.intro rfl trivial)
          · skip
            replace h := cF g9 h
            refine Exists.intro none ?_
            exact Exists.intro [] (Exists.intro [] (Exists.intro ((w64 (v14_95 + (1:Int))), m1) (And.intro (hl1 (w64 (v14_95 + (1:Int))) (Option.some.inj h).symm) (And.intro (Nat.lt_succ_self m1) (And.intro rfl (And.intro rfl (And.intro rfl (And.intro rfl (And.intro rfl (And.intro rfl trivial))))))))))
        · skip
          replace h := cF g8 h
          replace h := popS h hr1
          refine Exists.intro none ?_
          obtain ⟨y32_0, e32_0, h⟩ := bS h
          refine Exists.intro _ (Exists.intro _ (And.intro (Contract.wk (c_law18_awake y32_0 e32_0) trivial) (And.intro rfl ?_)))
          replace h := Option.some.inj h
          subst h
          exact (And.intro rfl trivial)

end Go.Proofs.Ytfnkbbeeilpiiaa
