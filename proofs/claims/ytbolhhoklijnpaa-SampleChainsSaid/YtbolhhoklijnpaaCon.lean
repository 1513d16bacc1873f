/- The contracts: each function of the program does what its function on plain data says. Made by program. -/
import Derived.Test.YtbolhhoklijnpaaTab
import Derived.Test.YtbolhhoklijnpaaWin
set_option linter.unusedVariables false
set_option linter.unusedSimpArgs false
set_option linter.unnecessarySimpa false
set_option maxHeartbeats 4000000
namespace Go.Proofs.Ytbolhhoklijnpaa
open Go.Vc Go.Dec Go.Win

theorem c_ref09_SameNumbers (p0 : (List Int)) (p1 : (List Int)) (r : Bool) (h : ref09_SameNumbers p0 p1 = some r) : Contract Try.prog 43 [.lst 1 false (List.map (eI .i64) p0), .lst 1 false (List.map (eI .i64) p1)] [] (.sb r) [] := by
  refine contract_of_vcs tab_ok orders_ok Try.func43 Try.call43 (by kernel_rfl) 0 rfl rfl _ rfl ?_
  delta ref09_SameNumbers at h
  refine Exists.intro none ?_
  refine Exists.intro none ?_
  refine Exists.intro [.int .i64 (p0.length : Int)] (And.intro (lenS (eI .i64) p0) ?_)
  refine Exists.intro [.int .i64 (p1.length : Int)] (And.intro (lenS (eI .i64) p1) ?_)
  refine And.intro (fun g1 => ?_) (fun g1 => ?_)
  · skip
    replace h := cT g1 h
    refine Exists.intro none ?_
    replace h := Option.some.inj h
    subst h
    exact (And.intro rfl trivial)
  · skip
    replace h := cF g1 h
    refine Exists.intro none ?_
    refine Exists.intro [.int .i64 (p0.length : Int)] (And.intro (lenS (eI .i64) p0) ?_)
    replace h : ref09_SameNumbers_l3 p0 p1 (0:Int) = some r := h
    delta ref09_SameNumbers_l3 at h
    obtain ⟨n1, h⟩ := loopS h
    refine Exists.intro ⟨Int × Nat, fun q => [(.tmp 0, .av (.lst 1 false (List.map (eI .i64) p0))), (.tmp 1, .av (.lst 1 false (List.map (eI .i64) p1))), (.tmp 12, .av (.int .i64 (p0.length : Int))), (.tmp 13, .av (.int .i64 q.1))], fun q => loopN (fun (s : Int) => ref09_SameNumbers_l3s p0 p1 s) q.2 q.1 = some r, fun q => q.2⟩ (And.intro (Exists.intro [] (Exists.intro [] (Exists.intro ((0:Int), n1) (And.intro h (And.intro rfl (And.intro ff (And.intro rfl (And.intro ff (And.intro rfl (And.intro rfl (And.intro rfl trivial))))))))))) ?_)
    clear h
    refine fun q h => ?_
    obtain ⟨v3_13, n1⟩ := q
    obtain ⟨m1, x1, hm1, h, hl1, hr1⟩ := loopN_step h
    replace hm1 : n1 = m1 + 1 := hm1
    subst hm1
    replace h : ref09_SameNumbers_l3s p0 p1 v3_13 = some x1 := h
    delta ref09_SameNumbers_l3s at h
    refine Exists.intro none ?_
    refine And.intro (fun g2 => ?_) (fun g2 => ?_)
    · skip
      replace h := cT g2 h
      refine Exists.intro none ?_
      refine Exists.intro none ?_
      obtain ⟨x6_2, e6_2, h⟩ := bS h
      obtain ⟨x6_6, e6_6, h⟩ := bS h
      refine Exists.intro [.int .i64 x6_2] (And.intro (idx_map (eI .i64) e6_2) ?_)
      refine Exists.intro [.int .i64 x6_6] (And.intro (idx_map (eI .i64) e6_6) ?_)
      refine And.intro (fun g3 => ?_) (fun g3 => ?_)
      · skip
        replace h := cT g3 h
        refine Exists.intro none ?_
        replace h := retS h hr1
        subst h
        exact (And.intro rfl trivial)
      · skip
        replace h := cF g3 h
        refine Exists.intro none ?_
        exact Exists.intro [] (Exists.intro [] (Exists.intro ((w64 (v3_13 + (1:Int))), m1) (And.intro (hl1 (w64 (v3_13 + (1:Int))) (Option.some.inj h).symm) (And.intro (Nat.lt_succ_self m1) (And.intro rfl (And.intro ff (And.intro rfl (And.intro ff (And.intro rfl (And.intro rfl (And.intro rfl trivial)))))))))))
    · skip
      replace h := cF g2 h
      replace h := popS h hr1
      refine Exists.intro none ?_
      replace h := Option.some.inj h
      subst h
      exact (And.intro rfl trivial)

theorem c_chain_New' (p0 : Int) (p1 : Int) (r : (api_Chain × Int)) (h : chain_New p0 p1 = r) : Contract Try.prog 93 [.int .i64 p0, .int .i64 p1] [] (.tup [.agg [.int .i64 r.1.W, .int .i64 r.1.Cap, .int .i64 r.1.I, .int .i64 r.1.Next, .lst 2 false (List.map enc_api_Link r.1.Links)], .int .i64 r.2]) [] := by
  refine contract_of_vcs tab_ok orders_ok Try.func93 Try.call93 (by kernel_rfl) 0 rfl rfl _ rfl ?_
  delta chain_New at h
  refine Exists.intro none ?_
  refine Exists.intro none ?_
  refine Exists.intro none ?_
  refine And.intro (fun g1 => ?_) (fun g1 => ?_)
  · skip
    refine And.intro (fun g2 => ?_) (fun g2 => ?_)
    · skip
      refine And.intro (fun g3 => ?_) (fun g3 => ?_)
      · skip
        refine And.intro (fun g4 => ?_) (fun g4 => ?_)
        · skip
          replace h := cT (oR (oR (oR g1 g2) g3) g4) h
          refine Exists.intro none ?_
          subst h
          exact (And.intro rfl (And.intro rfl (And.intro rfl (And.intro rfl (And.intro rfl (And.intro rfl trivial))))))
        · skip
          replace h := cF (oR (oR (oR g1 g2) g3) g4) h
          refine Exists.intro none ?_
          subst h
          exact (And.intro rfl (And.intro rfl (And.intro rfl (And.intro rfl (And.intro rfl (And.intro rfl trivial))))))
      · skip
        replace h := cT (oL (oR (oR g1 g2) g3)) h
        refine Exists.intro none ?_
        subst h
        exact (And.intro rfl (And.intro rfl (And.intro rfl (And.intro rfl (And.intro rfl (And.intro rfl trivial))))))
    · skip
      replace h := cT (oL (oL (oR g1 g2))) h
      refine Exists.intro none ?_
      subst h
      exact (And.intro rfl (And.intro rfl (And.intro rfl (And.intro rfl (And.intro rfl (And.intro rfl trivial))))))
  · skip
    replace h := cT (oL (oL (oL g1))) h
    refine Exists.intro none ?_
    subst h
    exact (And.intro rfl (And.intro rfl (And.intro rfl (And.intro rfl (And.intro rfl (And.intro rfl trivial))))))
theorem c_chain_New (p0 : Int) (p1 : Int) : Contract Try.prog 93 [.int .i64 p0, .int .i64 p1] [] (.tup [.agg [.int .i64 (chain_New p0 p1).1.W, .int .i64 (chain_New p0 p1).1.Cap, .int .i64 (chain_New p0 p1).1.I, .int .i64 (chain_New p0 p1).1.Next, .lst 2 false (List.map enc_api_Link (chain_New p0 p1).1.Links)], .int .i64 (chain_New p0 p1).2]) [] := c_chain_New' p0 p1 (chain_New p0 p1) rfl

theorem c_sample_New (p0 : Int) (p1 : Int) (p2 : Int) (r : (api_Sample × Int)) (h : sample_New p0 p1 p2 = some r) : Contract Try.prog 34 [.int .i64 p0, .int .i64 p1, .int .i64 p2] [] (.tup [.agg [.lst 5 false (List.map enc_api_Chain r.1.Chains)], .int .i64 r.2]) [] := by
  refine contract_of_vcs tab_ok orders_ok Try.func34 Try.call34 (by kernel_rfl) 0 rfl rfl _ rfl ?_
  delta sample_New at h
  refine Exists.intro none ?_
  refine Exists.intro none ?_
  refine Exists.intro none ?_
  refine And.intro (fun g1 => ?_) (fun g1 => ?_)
  · skip
    refine And.intro (fun g2 => ?_) (fun g2 => ?_)
    · skip
      replace h := cT (oR g1 g2) h
      refine Exists.intro none ?_
      replace h := Option.some.inj h
      subst h
      exact (And.intro rfl (And.intro rfl trivial))
    · skip
      replace h := cF (oR g1 g2) h
      refine Exists.intro none ?_
      refine Exists.intro none ?_
      replace h : sample_New_l3 p0 p1 p2 (0:Int) ([] : List api_Chain) = some r := h
      delta sample_New_l3 at h
      obtain ⟨n1, h⟩ := loopS h
      refine Exists.intro ⟨(Int × (List api_Chain)) × Nat, fun q => [(.tmp 1, .av (.int .i64 p1)), (.tmp 2, .av (.int .i64 p2)), (.tmp 6, .av (.ptr 0 0)), (.tmp 8, .av (.ptr 512 0)), (.tmp 18, .av (.int .i64 p0)), (.tmp 19, .av (.int .i64 q.1.1)), (.box 0, .box [.nilS]), (.box 512, .box [.own 1023]), (.tok 1023, .tok 78 5 (List.map enc_api_Chain q.1.2))], fun q => loopN (fun (s : (Int × (List api_Chain))) => sample_New_l3s p0 p1 p2 s.1 s.2) q.2 q.1 = some r, fun q => q.2⟩ (And.intro (Exists.intro [(1023, none)] (Exists.intro [] (Exists.intro (((0:Int), ([] : List api_Chain)), n1) (And.intro h (And.intro rfl (And.intro rfl (And.intro rfl (And.intro rfl (And.intro rfl (And.intro rfl trivial)))))))))) ?_)
      clear h
      refine fun q h => ?_
      obtain ⟨⟨v3_19, v3_b3x0_0⟩, n1⟩ := q
      obtain ⟨m1, x1, hm1, h, hl1, hr1⟩ := loopN_step h
      replace hm1 : n1 = m1 + 1 := hm1
      subst hm1
      replace h : sample_New_l3s p0 p1 p2 v3_19 v3_b3x0_0 = some x1 := h
      delta sample_New_l3s at h
      refine Exists.intro none ?_
      refine And.intro (fun g3 => ?_) (fun g3 => ?_)
      · skip
        replace h := cT g3 h
        refine Exists.intro none ?_
        refine Exists.intro _ (Exists.intro _ (And.intro (Contract.wk (c_chain_New p1 p2) (And.intro rfl (And.intro rfl trivial))) (And.intro rfl ?_)))
        refine Exists.intro none ?_
        refine And.intro (fun g4 => ?_) (fun g4 => ?_)
        · skip
          replace h := cT g4 h
          refine Exists.intro none ?_
          replace h := retS h hr1
          subst h
          exact (And.intro rfl (And.intro rfl trivial))
        · skip
          replace h := cF g4 h
          refine Exists.intro none ?_
          obtain ⟨k9_4, h⟩ := ckS h
          refine And.intro (by have hh := (of_decide_eq_true k9_4); (try simp only [fixRows_length, List.length_map, List.length_append, List.length_take, List.length_drop, List.length_set, List.length_replicate, List.length_cons, List.length_nil] at hh); (try simp only [fixRows_length, List.length_map, List.length_append, List.length_take, List.length_drop, List.length_set, List.length_replicate, List.length_cons, List.length_nil]); omega) ?_
          refine Exists.intro none ?_
          exact Exists.intro [(1023, some 1796)] (Exists.intro [] (Exists.intro (((w64 (v3_19 + (1:Int))), (v3_b3x0_0 ++ [(chain_New p1 p2).1])), m1) (And.intro (hl1 ((w64 (v3_19 + (1:Int))), (v3_b3x0_0 ++ [(chain_New p1 p2).1])) (Option.some.inj h).symm) (And.intro (Nat.lt_succ_self m1) (And.intro rfl (And.intro rfl (And.intro rfl (And.intro rfl (And.intro rfl (And.intro (by first | rfl | (simp only [List.map_append, List.map_cons, List.map_nil, List.map_take, List.map_drop, List.map_set, List.map_replicate]; done) | (simp only [List.map_append, List.map_cons, List.map_nil, List.map_take, List.map_drop, List.map_set, List.map_replicate]; rfl) | (simp only [List.map_append, List.map_cons, List.map_nil, List.map_take, List.map_drop, List.map_set, List.map_replicate, eL, enc_api_Command, enc_tape_Tape, enc_ref27_Cursor, enc_api_Chain, enc_api_Sample, enc_chain_source, enc_made_Tape, enc_api_Answer, enc_api_Reply]; done) | (simp only [List.map_append, List.map_cons, List.map_nil, List.map_take, List.map_drop, List.map_set, List.map_replicate, eL, enc_api_Command, enc_tape_Tape, enc_ref27_Cursor, enc_api_Chain, enc_api_Sample, enc_chain_source, enc_made_Tape, enc_api_Answer, enc_api_Reply]; rfl)) trivial))))))))))
      · skip
        replace h := cF g3 h
        replace h := popS h hr1
        refine Exists.intro none ?_
        replace h := Option.some.inj h
        subst h
        exact (And.intro ff (And.intro rfl (And.intro rfl trivial)))
  · skip
    replace h := cT (oL g1) h
    refine Exists.intro none ?_
    replace h := Option.some.inj h
    subst h
    exact (And.intro rfl (And.intro rfl trivial))

theorem c_ref06_Window' (p0 : Int) (r : Bool) (h : ref06_Window p0 = r) : Contract Try.prog 103 [.int .i64 p0] [] (.sb r) [] := by
  refine contract_of_vcs tab_ok orders_ok Try.func103 Try.call103 (by kernel_rfl) 0 rfl rfl _ rfl ?_
  delta ref06_Window at h
  refine Exists.intro none ?_
  refine Exists.intro none ?_
  refine Exists.intro none ?_
  refine And.intro (fun g1 => ?_) (fun g1 => ?_)
  · skip
    subst h
    exact (And.intro (Eq.symm (aR g1 rfl)) trivial)
  · skip
    subst h
    exact (And.intro (Eq.symm (aL g1)) trivial)
theorem c_ref06_Window (p0 : Int) : Contract Try.prog 103 [.int .i64 p0] [] (.sb (ref06_Window p0)) [] := c_ref06_Window' p0 (ref06_Window p0) rfl

theorem c_ref18_New' (p0 : Int) (p1 : Int) (r : (api_Chain × Int)) (h : ref18_New p0 p1 = r) : Contract Try.prog 50 [.int .i64 p0, .int .i64 p1] [] (.tup [.agg [.int .i64 r.1.W, .int .i64 r.1.Cap, .int .i64 r.1.I, .int .i64 r.1.Next, .lst 2 false (List.map enc_api_Link r.1.Links)], .int .i64 r.2]) [] := by
  refine contract_of_vcs tab_ok orders_ok Try.func50 Try.call50 (by kernel_rfl) 0 rfl rfl _ rfl ?_
  delta ref18_New at h
  refine Exists.intro none ?_
  refine Exists.intro none ?_
  refine Exists.intro none ?_
  refine Exists.intro _ (Exists.intro _ (And.intro (Contract.wk (c_ref06_Window p0) (And.intro rfl trivial)) (And.intro rfl ?_)))
  refine And.intro (fun g1 => ?_) (fun g1 => ?_)
  · skip
    refine And.intro (fun g2 => ?_) (fun g2 => ?_)
    · skip
      refine And.intro (fun g3 => ?_) (fun g3 => ?_)
      · skip
        replace h := cT (oR (oR g1 g2) g3) h
        refine Exists.intro none ?_
        subst h
        exact (And.intro rfl (And.intro rfl (And.intro rfl (And.intro rfl (And.intro rfl (And.intro rfl trivial))))))
      · skip
        replace h := cF (oR (oR g1 g2) g3) h
        refine Exists.intro none ?_
        subst h
        exact (And.intro rfl (And.intro rfl (And.intro rfl (And.intro rfl (And.intro rfl (And.intro rfl trivial))))))
    · skip
      replace h := cT (oL (oR g1 g2)) h
      refine Exists.intro none ?_
      subst h
      exact (And.intro rfl (And.intro rfl (And.intro rfl (And.intro rfl (And.intro rfl (And.intro rfl trivial))))))
  · skip
    replace h := cT (oL (oL g1)) h
    refine Exists.intro none ?_
    subst h
    exact (And.intro rfl (And.intro rfl (And.intro rfl (And.intro rfl (And.intro rfl (And.intro rfl trivial))))))
theorem c_ref18_New (p0 : Int) (p1 : Int) : Contract Try.prog 50 [.int .i64 p0, .int .i64 p1] [] (.tup [.agg [.int .i64 (ref18_New p0 p1).1.W, .int .i64 (ref18_New p0 p1).1.Cap, .int .i64 (ref18_New p0 p1).1.I, .int .i64 (ref18_New p0 p1).1.Next, .lst 2 false (List.map enc_api_Link (ref18_New p0 p1).1.Links)], .int .i64 (ref18_New p0 p1).2]) [] := c_ref18_New' p0 p1 (ref18_New p0 p1) rfl

theorem c_ref18_Same (p0 : api_Chain) (p1 : api_Chain) (r : Bool) (h : ref18_Same p0 p1 = some r) : Contract Try.prog 94 [.agg [.int .i64 p0.W, .int .i64 p0.Cap, .int .i64 p0.I, .int .i64 p0.Next, .lst 2 false (List.map enc_api_Link p0.Links)], .agg [.int .i64 p1.W, .int .i64 p1.Cap, .int .i64 p1.I, .int .i64 p1.Next, .lst 2 false (List.map enc_api_Link p1.Links)]] [] (.sb r) [] := by
  refine contract_of_vcs tab_ok orders_ok Try.func94 Try.call94 (by kernel_rfl) 0 rfl rfl _ rfl ?_
  delta ref18_Same at h
  refine Exists.intro none ?_
  refine Exists.intro none ?_
  refine Exists.intro none ?_
  refine And.intro (fun g1 => ?_) (fun g1 => ?_)
  · skip
    refine And.intro (fun g2 => ?_) (fun g2 => ?_)
    · skip
      refine And.intro (fun g3 => ?_) (fun g3 => ?_)
      · skip
        refine And.intro (fun g4 => ?_) (fun g4 => ?_)
        · skip
          refine Exists.intro [.int .i64 (p0.Links.length : Int)] (And.intro (lenS enc_api_Link p0.Links) ?_)
          refine Exists.intro [.int .i64 (p1.Links.length : Int)] (And.intro (lenS enc_api_Link p1.Links) ?_)
          refine And.intro (fun g5 => ?_) (fun g5 => ?_)
          · skip
            replace h := cT (oR (oR (oR (oR g1 g2) g3) g4) g5) h
            refine Exists.intro none ?_
            replace h := Option.some.inj h
            subst h
            exact (And.intro rfl trivial)
          · skip
            replace h := cF (oR (oR (oR (oR g1 g2) g3) g4) g5) h
            refine Exists.intro none ?_
            refine Exists.intro [.int .i64 (p0.Links.length : Int)] (And.intro (lenS enc_api_Link p0.Links) ?_)
            replace h : ref18_Same_l3 p0 p1 (0:Int) = some r := h
            delta ref18_Same_l3 at h
            obtain ⟨n1, h⟩ := loopS h
            refine Exists.intro ⟨Int × Nat, fun q => [(.tmp 2, .av (.ptr 0 0)), (.tmp 3, .av (.ptr 1 0)), (.tmp 43, .av (.int .i64 (p0.Links.length : Int))), (.tmp 44, .av (.int .i64 q.1)), (.box 0, .box [.int .i64 p0.W, .int .i64 p0.Cap, .int .i64 p0.I, .int .i64 p0.Next, .lst 2 false (List.map enc_api_Link p0.Links)]), (.box 1, .box [.int .i64 p1.W, .int .i64 p1.Cap, .int .i64 p1.I, .int .i64 p1.Next, .lst 2 false (List.map enc_api_Link p1.Links)])], fun q => loopN (fun (s : Int) => ref18_Same_l3s p0 p1 s) q.2 q.1 = some r, fun q => q.2⟩ (And.intro (Exists.intro [] (Exists.intro [] (Exists.intro ((0:Int), n1) (And.intro h (And.intro rfl (And.intro rfl (And.intro rfl (And.intro rfl (And.intro rfl (And.intro rfl (And.intro rfl (And.intro ff (And.intro rfl (And.intro rfl (And.intro rfl (And.intro rfl (And.intro rfl (And.intro ff (And.intro rfl trivial))))))))))))))))))) ?_)
            clear h
            refine fun q h => ?_
            obtain ⟨v3_44, n1⟩ := q
            obtain ⟨m1, x1, hm1, h, hl1, hr1⟩ := loopN_step h
            replace hm1 : n1 = m1 + 1 := hm1
            subst hm1
            replace h : ref18_Same_l3s p0 p1 v3_44 = some x1 := h
            delta ref18_Same_l3s at h
            refine Exists.intro none ?_
            refine And.intro (fun g6 => ?_) (fun g6 => ?_)
            · skip
              replace h := cT g6 h
              refine Exists.intro none ?_
              refine Exists.intro none ?_
              obtain ⟨x6_3, e6_3, h⟩ := bS h
              obtain ⟨x6_8, e6_8, h⟩ := bS h
              refine Exists.intro [.int .i64 x6_3.I, .int .i64 x6_3.V] (And.intro (idx_map enc_api_Link e6_3) ?_)
              refine Exists.intro [.int .i64 x6_8.I, .int .i64 x6_8.V] (And.intro (idx_map enc_api_Link e6_8) ?_)
              refine And.intro (fun g7 => ?_) (fun g7 => ?_)
              · skip
                replace h := cT g7 h
                refine Exists.intro none ?_
                replace h := retS h hr1
                subst h
                exact (And.intro rfl trivial)
              · skip
                replace h := cF g7 h
                refine Exists.intro none ?_
                exact Exists.intro [] (Exists.intro [] (Exists.intro ((w64 (v3_44 + (1:Int))), m1) (And.intro (hl1 (w64 (v3_44 + (1:Int))) (Option.some.inj h).symm) (And.intro (Nat.lt_succ_self m1) (And.intro rfl (And.intro rfl (And.intro rfl (And.intro rfl (And.intro rfl (And.intro rfl (And.intro rfl (And.intro ff (And.intro rfl (And.intro rfl (And.intro rfl (And.intro rfl (And.intro rfl (And.intro ff (And.intro rfl trivial)))))))))))))))))))
            · skip
              replace h := cF g6 h
              replace h := popS h hr1
              refine Exists.intro none ?_
              replace h := Option.some.inj h
              subst h
              exact (And.intro rfl trivial)
        · skip
          replace h := cT (oL (oR (oR (oR g1 g2) g3) g4)) h
          refine Exists.intro none ?_
          replace h := Option.some.inj h
          subst h
          exact (And.intro rfl trivial)
      · skip
        replace h := cT (oL (oL (oR (oR g1 g2) g3))) h
        refine Exists.intro none ?_
        replace h := Option.some.inj h
        subst h
        exact (And.intro rfl trivial)
    · skip
      replace h := cT (oL (oL (oL (oR g1 g2)))) h
      refine Exists.intro none ?_
      replace h := Option.some.inj h
      subst h
      exact (And.intro rfl trivial)
  · skip
    replace h := cT (oL (oL (oL (oL g1)))) h
    refine Exists.intro none ?_
    replace h := Option.some.inj h
    subst h
    exact (And.intro rfl trivial)

theorem c_ref19_Same (p0 : api_Sample) (p1 : api_Sample) (r : Bool) (h : ref19_Same p0 p1 = some r) : Contract Try.prog 36 [.agg [.lst 5 false (List.map enc_api_Chain p0.Chains)], .agg [.lst 5 false (List.map enc_api_Chain p1.Chains)]] [] (.sb r) [] := by
  refine contract_of_vcs tab_ok orders_ok Try.func36 Try.call36 (by kernel_rfl) 0 rfl rfl _ rfl ?_
  delta ref19_Same at h
  refine Exists.intro none ?_
  refine Exists.intro none ?_
  refine Exists.intro [.int .i64 (p0.Chains.length : Int)] (And.intro (lenS enc_api_Chain p0.Chains) ?_)
  refine Exists.intro [.int .i64 (p1.Chains.length : Int)] (And.intro (lenS enc_api_Chain p1.Chains) ?_)
  refine And.intro (fun g1 => ?_) (fun g1 => ?_)
  · skip
    replace h := cT g1 h
    refine Exists.intro none ?_
    replace h := Option.some.inj h
    subst h
    exact (And.intro rfl trivial)
  · skip
    replace h := cF g1 h
    refine Exists.intro none ?_
    refine Exists.intro [.int .i64 (p0.Chains.length : Int)] (And.intro (lenS enc_api_Chain p0.Chains) ?_)
    replace h : ref19_Same_l3 p0 p1 (0:Int) = some r := h
    delta ref19_Same_l3 at h
    obtain ⟨n1, h⟩ := loopS h
    refine Exists.intro ⟨Int × Nat, fun q => [(.tmp 2, .av (.ptr 0 0)), (.tmp 3, .av (.ptr 1 0)), (.tmp 15, .av (.int .i64 (p0.Chains.length : Int))), (.tmp 16, .av (.int .i64 q.1)), (.box 0, .box [.lst 5 false (List.map enc_api_Chain p0.Chains)]), (.box 1, .box [.lst 5 false (List.map enc_api_Chain p1.Chains)])], fun q => loopN (fun (s : Int) => ref19_Same_l3s p0 p1 s) q.2 q.1 = some r, fun q => q.2⟩ (And.intro (Exists.intro [] (Exists.intro [] (Exists.intro ((0:Int), n1) (And.intro h (And.intro rfl (And.intro rfl (And.intro rfl (And.intro ff (And.intro rfl (And.intro ff (And.intro rfl trivial))))))))))) ?_)
    clear h
    refine fun q h => ?_
    obtain ⟨v3_16, n1⟩ := q
    obtain ⟨m1, x1, hm1, h, hl1, hr1⟩ := loopN_step h
    replace hm1 : n1 = m1 + 1 := hm1
    subst hm1
    replace h : ref19_Same_l3s p0 p1 v3_16 = some x1 := h
    delta ref19_Same_l3s at h
    refine Exists.intro none ?_
    refine And.intro (fun g2 => ?_) (fun g2 => ?_)
    · skip
      replace h := cT g2 h
      refine Exists.intro none ?_
      refine Exists.intro none ?_
      obtain ⟨x6_3, e6_3, h⟩ := bS h
      obtain ⟨x6_8, e6_8, h⟩ := bS h
      obtain ⟨y6_10, e6_10, h⟩ := bS h
      refine Exists.intro [.int .i64 x6_3.W, .int .i64 x6_3.Cap, .int .i64 x6_3.I, .int .i64 x6_3.Next, .lst 2 false (List.map enc_api_Link x6_3.Links)] (And.intro (idx_map enc_api_Chain e6_3) ?_)
      refine Exists.intro [.int .i64 x6_8.W, .int .i64 x6_8.Cap, .int .i64 x6_8.I, .int .i64 x6_8.Next, .lst 2 false (List.map enc_api_Link x6_8.Links)] (And.intro (idx_map enc_api_Chain e6_8) ?_)
      refine Exists.intro _ (Exists.intro _ (And.intro (Contract.wk (c_ref18_Same x6_3 x6_8 y6_10 e6_10) (And.intro rfl (And.intro rfl (And.intro rfl (And.intro rfl (And.intro ff (And.intro rfl (And.intro rfl (And.intro rfl (And.intro rfl (And.intro rfl (And.intro ff (And.intro rfl trivial))))))))))))) (And.intro rfl ?_)))
      refine And.intro (fun g3 => ?_) (fun g3 => ?_)
      · skip
        replace h := cT g3 h
        refine Exists.intro none ?_
        replace h := retS h hr1
        subst h
        exact (And.intro rfl trivial)
      · skip
        replace h := cF g3 h
        refine Exists.intro none ?_
        exact Exists.intro [] (Exists.intro [] (Exists.intro ((w64 (v3_16 + (1:Int))), m1) (And.intro (hl1 (w64 (v3_16 + (1:Int))) (Option.some.inj h).symm) (And.intro (Nat.lt_succ_self m1) (And.intro rfl (And.intro rfl (And.intro rfl (And.intro ff (And.intro rfl (And.intro ff (And.intro rfl trivial)))))))))))
    · skip
      replace h := cF g2 h
      replace h := popS h hr1
      refine Exists.intro none ?_
      replace h := Option.some.inj h
      subst h
      exact (And.intro rfl trivial)

theorem c_chain_Validate (p0 : api_Chain) (r : Int) (h : chain_Validate p0 = some r) : Contract Try.prog 97 [.agg [.int .i64 p0.W, .int .i64 p0.Cap, .int .i64 p0.I, .int .i64 p0.Next, .lst 2 false (List.map enc_api_Link p0.Links)]] [] (.int .i64 r) [] := by
  refine contract_of_vcs tab_ok orders_ok Try.func97 Try.call97 (by kernel_rfl) 0 rfl rfl _ rfl ?_
  delta chain_Validate at h
  refine Exists.intro none ?_
  refine Exists.intro none ?_
  refine Exists.intro none ?_
  refine And.intro (fun g1 => ?_) (fun g1 => ?_)
  · skip
    refine And.intro (fun g2 => ?_) (fun g2 => ?_)
    · skip
      refine And.intro (fun g3 => ?_) (fun g3 => ?_)
      · skip
        refine And.intro (fun g4 => ?_) (fun g4 => ?_)
        · skip
          refine And.intro (fun g5 => ?_) (fun g5 => ?_)
          · skip
            refine And.intro (fun g6 => ?_) (fun g6 => ?_)
            · skip
              refine Exists.intro [.int .i64 (p0.Links.length : Int)] (And.intro (lenS enc_api_Link p0.Links) ?_)
              refine And.intro (fun g7 => ?_) (fun g7 => ?_)
              · skip
                replace h := cT (oR (oR (oR (oR (oR (oR g1 g2) g3) g4) g5) g6) g7) h
                refine Exists.intro none ?_
                replace h := Option.some.inj h
                subst h
                exact (And.intro rfl trivial)
              · skip
                replace h := cF (oR (oR (oR (oR (oR (oR g1 g2) g3) g4) g5) g6) g7) h
                refine Exists.intro none ?_
                refine And.intro (fun g8 => ?_) (fun g8 => ?_)
                · skip
                  replace h := cT g8 h
                  refine Exists.intro none ?_
                  refine Exists.intro none ?_
                  refine Exists.intro [.int .i64 (p0.Links.length : Int)] (And.intro (lenS enc_api_Link p0.Links) ?_)
                  refine And.intro (fun g9 => ?_) (fun g9 => ?_)
                  · skip
                    refine And.intro (fun g10 => ?_) (fun g10 => ?_)
                    · skip
                      replace h := cT (oR g9 g10) h
                      refine Exists.intro none ?_
                      replace h := Option.some.inj h
                      subst h
                      exact (And.intro rfl trivial)
                    · skip
                      replace h := cF (oR g9 g10) h
                      refine Exists.intro none ?_
                      replace h := Option.some.inj h
                      subst h
                      exact (And.intro rfl trivial)
                  · skip
                    replace h := cT (oL g9) h
                    refine Exists.intro none ?_
                    replace h := Option.some.inj h
                    subst h
                    exact (And.intro rfl trivial)
                · skip
                  replace h := cF g8 h
                  refine Exists.intro none ?_
                  refine Exists.intro [.int .i64 (p0.Links.length : Int)] (And.intro (lenS enc_api_Link p0.Links) ?_)
                  refine And.intro (fun g11 => ?_) (fun g11 => ?_)
                  · skip
                    replace h := cT g11 h
                    refine Exists.intro none ?_
                    replace h := Option.some.inj h
                    subst h
                    exact (And.intro rfl trivial)
                  · skip
                    replace h := cF g11 h
                    refine Exists.intro none ?_
                    refine Exists.intro [.int .i64 (p0.Links.length : Int)] (And.intro (lenS enc_api_Link p0.Links) ?_)
                    replace h : chain_Validate_l6 p0 (0:Int) = some r := h
                    delta chain_Validate_l6 at h
                    obtain ⟨n1, h⟩ := loopS h
                    refine Exists.intro ⟨Int × Nat, fun q => [(.tmp 1, .av (.ptr 0 0)), (.tmp 58, .av (.lst 2 false (List.map enc_api_Link p0.Links))), (.tmp 59, .av (.int .i64 (p0.Links.length : Int))), (.tmp 60, .av (.int .i64 q.1)), (.box 0, .box [.int .i64 p0.W, .int .i64 p0.Cap, .int .i64 p0.I, .int .i64 p0.Next, .lst 2 false (List.map enc_api_Link p0.Links)])], fun q => loopN (fun (s : Int) => chain_Validate_l6s p0 s) q.2 q.1 = some r, fun q => q.2⟩ (And.intro (Exists.intro [] (Exists.intro [] (Exists.intro ((0:Int), n1) (And.intro h (And.intro rfl (And.intro ff (And.intro rfl (And.intro rfl (And.intro rfl (And.intro rfl (And.intro rfl (And.intro rfl (And.intro rfl (And.intro ff (And.intro rfl trivial))))))))))))))) ?_)
                    clear h
                    refine fun q h => ?_
                    obtain ⟨v6_60, n1⟩ := q
                    obtain ⟨m1, x1, hm1, h, hl1, hr1⟩ := loopN_step h
                    replace hm1 : n1 = m1 + 1 := hm1
                    subst hm1
                    replace h : chain_Validate_l6s p0 v6_60 = some x1 := h
                    delta chain_Validate_l6s at h
                    refine Exists.intro none ?_
                    refine And.intro (fun g12 => ?_) (fun g12 => ?_)
                    · skip
                      replace h := cT g12 h
                      refine Exists.intro none ?_
                      obtain ⟨x11_1, e11_1, h⟩ := bS h
                      refine Exists.intro [.int .i64 x11_1.I, .int .i64 x11_1.V] (And.intro (idx_map enc_api_Link e11_1) ?_)
                      refine Exists.intro none ?_
                      refine Exists.intro none ?_
                      refine And.intro (fun g13 => ?_) (fun g13 => ?_)
                      · skip
                        refine And.intro (fun g14 => ?_) (fun g14 => ?_)
                        · skip
                          refine And.intro (fun g15 => ?_) (fun g15 => ?_)
                          · skip
                            refine And.intro (fun g16 => ?_) (fun g16 => ?_)
                            · skip
                              refine And.intro (fun g17 => ?_) (fun g17 => ?_)
                              · skip
                                replace h := cT (oR (oR (oR (oR g13 g14) g15) g16) g17) h
                                refine Exists.intro none ?_
                                replace h := retS h hr1
                                subst h
                                exact (And.intro rfl trivial)
                              · skip
                                replace h := cF (oR (oR (oR (oR g13 g14) g15) g16) g17) h
                                refine Exists.intro none ?_
                                obtain ⟨x14_9, e14_9, h⟩ := bS h
                                obtain ⟨x14_20, e14_20, h⟩ := bS h
                                refine Exists.intro (some (⟨Unit, fun _ => [(.tmp 1, .av (.ptr 0 0)), (.tmp 58, .av (.lst 2 false (List.map enc_api_Link p0.Links))), (.tmp 59, .av (.int .i64 (p0.Links.length : Int))), (.tmp 60, .av (.int .i64 v6_60)), (.tmp 123, .av (.sb ((decide (v6_60 > (0:Int))) && ((decide (x11_1.I ≤ x14_9.I)) || (decide (x11_1.I > (w64 (x14_20.I + p0.W)))))))), (.box 0, .box [.int .i64 p0.W, .int .i64 p0.Cap, .int .i64 p0.I, .int .i64 p0.Next, .lst 2 false (List.map enc_api_Link p0.Links)])], fun _ => True, fun _ => 0⟩, 1000000)) (And.intro ?_ (fun _ _ => ?_))
                                · skip
                                  refine And.intro (fun g18 => ?_) (fun g18 => ?_)
                                  · skip
                                    refine Exists.intro [.int .i64 x14_9.I, .int .i64 x14_9.V] (And.intro (idx_map enc_api_Link (gdT g18 e14_9)) ?_)
                                    refine And.intro (fun g19 => ?_) (fun g19 => ?_)
                                    · skip
                                      refine Exists.intro [.int .i64 x14_20.I, .int .i64 x14_20.V] (And.intro (idx_map enc_api_Link (gdT (aR g18 (nE g19)) e14_20)) ?_)
                                      exact Exists.intro [] (Exists.intro [] (Exists.intro () (And.intro trivial (And.intro rfl (And.intro ff (And.intro rfl (And.intro rfl (And.intro rfl (And.intro (Eq.symm (aR g18 (oR g19 rfl))) (And.intro rfl (And.intro rfl (And.intro rfl (And.intro rfl (And.intro ff (And.intro rfl trivial)))))))))))))))
                                    · skip
                                      exact Exists.intro [] (Exists.intro [] (Exists.intro () (And.intro trivial (And.intro rfl (And.intro ff (And.intro rfl (And.intro rfl (And.intro rfl (And.intro (Eq.symm (aR g18 (oL g19))) (And.intro rfl (And.intro rfl (And.intro rfl (And.intro rfl (And.intro ff (And.intro rfl trivial)))))))))))))))
                                  · skip
                                    exact Exists.intro [] (Exists.intro [] (Exists.intro () (And.intro trivial (And.intro rfl (And.intro ff (And.intro rfl (And.intro rfl (And.intro rfl (And.intro (Eq.symm (aL g18)) (And.intro rfl (And.intro rfl (And.intro rfl (And.intro rfl (And.intro ff (And.intro rfl trivial)))))))))))))))
                                · skip
                                  refine And.intro (fun g20 => ?_) (fun g20 => ?_)
                                  · skip
                                    replace h := cT g20 h
                                    refine Exists.intro none ?_
                                    replace h := retS h hr1
                                    subst h
                                    exact (And.intro rfl trivial)
                                  · skip
                                    replace h := cF g20 h
                                    refine Exists.intro none ?_
                                    exact Exists.intro [] (Exists.intro [] (Exists.intro ((w64 (v6_60 + (1:Int))), m1) (And.intro (hl1 (w64 (v6_60 + (1:Int))) (Option.some.inj h).symm) (And.intro (Nat.lt_succ_self m1) (And.intro rfl (And.intro ff (And.intro rfl (And.intro rfl (And.intro rfl (And.intro rfl (And.intro rfl (And.intro rfl (And.intro rfl (And.intro ff (And.intro rfl trivial)))))))))))))))
                            · skip
                              replace h := cT (oL (oR (oR (oR g13 g14) g15) g16)) h
                              refine Exists.intro none ?_
                              replace h := retS h hr1
                              subst h
                              exact (And.intro rfl trivial)
                          · skip
                            replace h := cT (oL (oL (oR (oR g13 g14) g15))) h
                            refine Exists.intro none ?_
                            replace h := retS h hr1
                            subst h
                            exact (And.intro rfl trivial)
                        · skip
                          replace h := cT (oL (oL (oL (oR g13 g14)))) h
                          refine Exists.intro none ?_
                          replace h := retS h hr1
                          subst h
                          exact (And.intro rfl trivial)
                      · skip
                        replace h := cT (oL (oL (oL (oL g13)))) h
                        refine Exists.intro none ?_
                        replace h := retS h hr1
                        subst h
                        exact (And.intro rfl trivial)
                    · skip
                      replace h := cF g12 h
                      replace h := popS h hr1
                      refine Exists.intro none ?_
                      obtain ⟨x17_14, e17_14, h⟩ := bS h
                      refine Exists.intro none ?_
                      refine And.intro (fun g21 => ?_) (fun g21 => ?_)
                      · skip
                        refine Exists.intro [.int .i64 (p0.Links.length : Int)] (And.intro (lenS enc_api_Link p0.Links) ?_)
                        refine Exists.intro [.int .i64 x17_14.I, .int .i64 x17_14.V] (And.intro (idx_map enc_api_Link (gdT (nE g21) e17_14)) ?_)
                        refine And.intro (fun g22 => ?_) (fun g22 => ?_)
                        · skip
                          replace h := cT (oR g21 g22) h
                          refine Exists.intro none ?_
                          replace h := Option.some.inj h
                          subst h
                          exact (And.intro rfl trivial)
                        · skip
                          replace h := cF (oR g21 g22) h
                          refine Exists.intro none ?_
                          replace h := Option.some.inj h
                          subst h
                          exact (And.intro rfl trivial)
                      · skip
                        replace h := cT (oL g21) h
                        refine Exists.intro none ?_
                        replace h := Option.some.inj h
                        subst h
                        exact (And.intro rfl trivial)
            · skip
              replace h := cT (oL (oR (oR (oR (oR (oR g1 g2) g3) g4) g5) g6)) h
              refine Exists.intro none ?_
              replace h := Option.some.inj h
              subst h
              exact (And.intro rfl trivial)
          · skip
            replace h := cT (oL (oL (oR (oR (oR (oR g1 g2) g3) g4) g5))) h
            refine Exists.intro none ?_
            replace h := Option.some.inj h
            subst h
            exact (And.intro rfl trivial)
        · skip
          replace h := cT (oL (oL (oL (oR (oR (oR g1 g2) g3) g4)))) h
          refine Exists.intro none ?_
          replace h := Option.some.inj h
          subst h
          exact (And.intro rfl trivial)
      · skip
        replace h := cT (oL (oL (oL (oL (oR (oR g1 g2) g3))))) h
        refine Exists.intro none ?_
        replace h := Option.some.inj h
        subst h
        exact (And.intro rfl trivial)
    · skip
      replace h := cT (oL (oL (oL (oL (oL (oR g1 g2)))))) h
      refine Exists.intro none ?_
      replace h := Option.some.inj h
      subst h
      exact (And.intro rfl trivial)
  · skip
    replace h := cT (oL (oL (oL (oL (oL (oL g1)))))) h
    refine Exists.intro none ?_
    replace h := Option.some.inj h
    subst h
    exact (And.intro rfl trivial)

theorem c_sample_Validate (p0 : api_Sample) (r : Int) (h : sample_Validate p0 = some r) : Contract Try.prog 41 [.agg [.lst 5 false (List.map enc_api_Chain p0.Chains)]] [] (.int .i64 r) [] := by
  refine contract_of_vcs tab_ok orders_ok Try.func41 Try.call41 (by kernel_rfl) 0 rfl rfl _ rfl ?_
  delta sample_Validate at h
  refine Exists.intro none ?_
  refine Exists.intro none ?_
  refine Exists.intro none ?_
  refine Exists.intro [.int .i64 (p0.Chains.length : Int)] (And.intro (lenS enc_api_Chain p0.Chains) ?_)
  refine And.intro (fun g1 => ?_) (fun g1 => ?_)
  · skip
    refine Exists.intro [.int .i64 (p0.Chains.length : Int)] (And.intro (lenS enc_api_Chain p0.Chains) ?_)
    refine And.intro (fun g2 => ?_) (fun g2 => ?_)
    · skip
      replace h := cT (oR g1 g2) h
      refine Exists.intro none ?_
      replace h := Option.some.inj h
      subst h
      exact (And.intro rfl trivial)
    · skip
      replace h := cF (oR g1 g2) h
      refine Exists.intro none ?_
      refine Exists.intro [.int .i64 (p0.Chains.length : Int)] (And.intro (lenS enc_api_Chain p0.Chains) ?_)
      replace h : sample_Validate_l3 p0 (0:Int) = some r := h
      delta sample_Validate_l3 at h
      obtain ⟨n1, h⟩ := loopS h
      refine Exists.intro ⟨Int × Nat, fun q => [(.tmp 1, .av (.ptr 0 0)), (.tmp 17, .av (.lst 5 false (List.map enc_api_Chain p0.Chains))), (.tmp 18, .av (.int .i64 (p0.Chains.length : Int))), (.tmp 19, .av (.int .i64 q.1)), (.box 0, .box [.lst 5 false (List.map enc_api_Chain p0.Chains)])], fun q => loopN (fun (s : Int) => sample_Validate_l3s p0 s) q.2 q.1 = some r, fun q => q.2⟩ (And.intro (Exists.intro [] (Exists.intro [] (Exists.intro ((0:Int), n1) (And.intro h (And.intro rfl (And.intro ff (And.intro rfl (And.intro rfl (And.intro rfl (And.intro ff (And.intro rfl trivial))))))))))) ?_)
      clear h
      refine fun q h => ?_
      obtain ⟨v3_19, n1⟩ := q
      obtain ⟨m1, x1, hm1, h, hl1, hr1⟩ := loopN_step h
      replace hm1 : n1 = m1 + 1 := hm1
      subst hm1
      replace h : sample_Validate_l3s p0 v3_19 = some x1 := h
      delta sample_Validate_l3s at h
      refine Exists.intro none ?_
      refine And.intro (fun g3 => ?_) (fun g3 => ?_)
      · skip
        replace h := cT g3 h
        refine Exists.intro none ?_
        obtain ⟨x5_0, e5_0, h⟩ := bS h
        refine Exists.intro [.int .i64 x5_0.W, .int .i64 x5_0.Cap, .int .i64 x5_0.I, .int .i64 x5_0.Next, .lst 2 false (List.map enc_api_Link x5_0.Links)] (And.intro (idx_map enc_api_Chain e5_0) ?_)
        refine Exists.intro none ?_
        obtain ⟨x6_2, e6_2, h⟩ := bS h
        refine Exists.intro [.int .i64 x6_2.W, .int .i64 x6_2.Cap, .int .i64 x6_2.I, .int .i64 x6_2.Next, .lst 2 false (List.map enc_api_Link x6_2.Links)] (And.intro (idx_map enc_api_Chain e6_2) ?_)
        refine Exists.intro none ?_
        obtain ⟨y7_1, e7_1, h⟩ := bS h
        refine Exists.intro none ?_
        refine Exists.intro _ (Exists.intro _ (And.intro (Contract.wk (c_chain_Validate x5_0 y7_1 e7_1) (And.intro rfl (And.intro rfl (And.intro rfl (And.intro rfl (And.intro ff (And.intro rfl trivial))))))) (And.intro rfl ?_)))
        refine And.intro (fun g4 => ?_) (fun g4 => ?_)
        · skip
          refine And.intro (fun g5 => ?_) (fun g5 => ?_)
          · skip
            refine And.intro (fun g6 => ?_) (fun g6 => ?_)
            · skip
              refine And.intro (fun g7 => ?_) (fun g7 => ?_)
              · skip
                replace h := cT (oR (oR (oR g4 g5) g6) g7) h
                refine Exists.intro none ?_
                replace h := retS h hr1
                subst h
                exact (And.intro rfl trivial)
              · skip
                replace h := cF (oR (oR (oR g4 g5) g6) g7) h
                refine Exists.intro none ?_
                exact Exists.intro [] (Exists.intro [] (Exists.intro ((w64 (v3_19 + (1:Int))), m1) (And.intro (hl1 (w64 (v3_19 + (1:Int))) (Option.some.inj h).symm) (And.intro (Nat.lt_succ_self m1) (And.intro rfl (And.intro ff (And.intro rfl (And.intro rfl (And.intro rfl (And.intro ff (And.intro rfl trivial)))))))))))
            · skip
              replace h := cT (oL (oR (oR g4 g5) g6)) h
              refine Exists.intro none ?_
              replace h := retS h hr1
              subst h
              exact (And.intro rfl trivial)
          · skip
            replace h := cT (oL (oL (oR g4 g5))) h
            refine Exists.intro none ?_
            replace h := retS h hr1
            subst h
            exact (And.intro rfl trivial)
        · skip
          replace h := cT (oL (oL (oL g4))) h
          refine Exists.intro none ?_
          replace h := retS h hr1
          subst h
          exact (And.intro rfl trivial)
      · skip
        replace h := cF g3 h
        replace h := popS h hr1
        refine Exists.intro none ?_
        replace h := Option.some.inj h
        subst h
        exact (And.intro rfl trivial)
  · skip
    replace h := cT (oL g1) h
    refine Exists.intro none ?_
    replace h := Option.some.inj h
    subst h
    exact (And.intro rfl trivial)

theorem c_draw_Next (p0 : (List Int)) (p1 : Int) (p2 : Int) (r : (Int × Int × Int)) (h : draw_Next p0 p1 p2 = some r) : Contract Try.prog 158 [.lst 1 false (List.map (eI .i64) p0), .int .i64 p1, .int .i64 p2] [] (.tup [.int .i64 r.1, .int .i64 r.2.1, .int .i64 r.2.2]) [] := by
  refine contract_of_vcs tab_ok orders_ok Try.func158 Try.call158 (by kernel_rfl) 0 rfl rfl _ rfl ?_
  delta draw_Next at h
  refine Exists.intro none ?_
  refine Exists.intro none ?_
  refine Exists.intro none ?_
  refine And.intro (fun g1 => ?_) (fun g1 => ?_)
  · skip
    refine And.intro (fun g2 => ?_) (fun g2 => ?_)
    · skip
      replace h := cT (oR g1 g2) h
      refine Exists.intro none ?_
      replace h := Option.some.inj h
      subst h
      exact (And.intro rfl (And.intro rfl (And.intro rfl trivial)))
    · skip
      replace h := cF (oR g1 g2) h
      refine Exists.intro none ?_
      obtain ⟨x3_7, e3_7, h⟩ := bS h
      obtain ⟨x3_14, e3_14, h⟩ := bS h
      refine Exists.intro none ?_
      refine Exists.intro [.int .i64 (p0.length : Int)] (And.intro (lenS (eI .i64) p0) ?_)
      refine And.intro (fun g3 => ?_) (fun g3 => ?_)
      · skip
        refine Exists.intro [.int .i64 x3_7] (And.intro (idx_map (eI .i64) (gdT (nE g3) e3_7)) ?_)
        refine And.intro (fun g4 => ?_) (fun g4 => ?_)
        · skip
          refine Exists.intro [.int .i64 x3_14] (And.intro (idx_map (eI .i64) (gdT (nE (oR g3 g4)) e3_14)) ?_)
          refine And.intro (fun g5 => ?_) (fun g5 => ?_)
          · skip
            replace h := cT (oR (oR g3 g4) g5) h
            refine Exists.intro none ?_
            replace h := Option.some.inj h
            subst h
            exact (And.intro rfl (And.intro rfl (And.intro rfl trivial)))
          · skip
            replace h := cF (oR (oR g3 g4) g5) h
            refine Exists.intro none ?_
            obtain ⟨x5_2, e5_2, h⟩ := bS h
            refine Exists.intro [.int .i64 x5_2] (And.intro (idx_map (eI .i64) e5_2) ?_)
            replace h := Option.some.inj h
            subst h
            exact (And.intro rfl (And.intro rfl (And.intro rfl trivial)))
        · skip
          replace h := cT (oL (oR g3 g4)) h
          refine Exists.intro none ?_
          replace h := Option.some.inj h
          subst h
          exact (And.intro rfl (And.intro rfl (And.intro rfl trivial)))
      · skip
        replace h := cT (oL (oL g3)) h
        refine Exists.intro none ?_
        replace h := Option.some.inj h
        subst h
        exact (And.intro rfl (And.intro rfl (And.intro rfl trivial)))
  · skip
    replace h := cT (oL g1) h
    refine Exists.intro none ?_
    replace h := Option.some.inj h
    subst h
    exact (And.intro rfl (And.intro rfl (And.intro rfl trivial)))

theorem c_chain_source_next (p0 : chain_source) (p1 : Int) (r : (Int × Int × chain_source)) (h : chain_source_next p0 p1 = some r) : Contract Try.prog 139 [.ptr 0 0, .int .i64 p1] [[.lst 1 false (List.map (eI .i64) p0.draws_), .int .i64 p0.at_, .int .i64 p0.beyond_]] (.tup [.int .i64 r.1, .int .i64 r.2.1]) [[.lst 1 false (List.map (eI .i64) r.2.2.draws_), .int .i64 r.2.2.at_, .int .i64 r.2.2.beyond_]] := by
  refine contract_of_vcs tab_ok orders_ok Try.func139 Try.call139 (by kernel_rfl) 1 rfl rfl _ rfl ?_
  delta chain_source_next at h
  refine Exists.intro none ?_
  refine Exists.intro none ?_
  obtain ⟨y1_9, e1_9, h⟩ := bS h
  refine Exists.intro _ (Exists.intro _ (And.intro (Contract.wk (c_draw_Next p0.draws_ p0.at_ p1 y1_9 e1_9) (And.intro ff (And.intro rfl (And.intro rfl (And.intro rfl trivial))))) (And.intro rfl ?_)))
  refine Exists.intro none ?_
  refine And.intro (fun g1 => ?_) (fun g1 => ?_)
  · skip
    replace h := cT g1 h
    refine Exists.intro none ?_
    refine Exists.intro [.int .i64 (p0.draws_.length : Int)] (And.intro (lenS (eI .i64) p0.draws_) ?_)
    refine Exists.intro none ?_
    refine And.intro (fun g2 => ?_) (fun g2 => ?_)
    · skip
      replace h := cT g2 h
      refine Exists.intro none ?_
      refine Exists.intro none ?_
      replace h := Option.some.inj h
      subst h
      exact (And.intro rfl (And.intro rfl (And.intro ff (And.intro rfl (And.intro rfl (And.intro rfl trivial))))))
    · skip
      replace h := cF g2 h
      refine Exists.intro none ?_
      replace h := Option.some.inj h
      subst h
      exact (And.intro rfl (And.intro rfl (And.intro ff (And.intro rfl (And.intro rfl (And.intro rfl trivial))))))
  · skip
    replace h := cF g1 h
    refine Exists.intro none ?_
    refine Exists.intro none ?_
    replace h := Option.some.inj h
    subst h
    exact (And.intro rfl (And.intro rfl (And.intro ff (And.intro rfl (And.intro rfl (And.intro rfl trivial))))))

theorem c_chain_add (p0 : api_Chain) (p1 : Int) (p2 : chain_source) (r : (api_Chain × Int × chain_source)) (h : chain_add p0 p1 p2 = some r) : Contract Try.prog 104 [.agg [.int .i64 p0.W, .int .i64 p0.Cap, .int .i64 p0.I, .int .i64 p0.Next, .lst 2 false (List.map enc_api_Link p0.Links)], .int .i64 p1, .ptr 0 0] [[.lst 1 false (List.map (eI .i64) p2.draws_), .int .i64 p2.at_, .int .i64 p2.beyond_]] (.tup [.agg [.int .i64 r.1.W, .int .i64 r.1.Cap, .int .i64 r.1.I, .int .i64 r.1.Next, .lst 2 false (List.map enc_api_Link r.1.Links)], .int .i64 r.2.1]) [[.lst 1 false (List.map (eI .i64) r.2.2.draws_), .int .i64 r.2.2.at_, .int .i64 r.2.2.beyond_]] := by
  refine contract_of_vcs tab_ok orders_ok Try.func104 Try.call104 (by kernel_rfl) 1 rfl rfl _ rfl ?_
  delta chain_add at h
  refine Exists.intro none ?_
  refine Exists.intro none ?_
  refine Exists.intro none ?_
  refine And.intro (fun g1 => ?_) (fun g1 => ?_)
  · skip
    refine And.intro (fun g2 => ?_) (fun g2 => ?_)
    · skip
      replace h := cT (oR g1 g2) h
      refine Exists.intro none ?_
      replace h := Option.some.inj h
      subst h
      exact (And.intro rfl (And.intro rfl (And.intro rfl (And.intro rfl (And.intro rfl (And.intro rfl (And.intro ff (And.intro rfl (And.intro rfl (And.intro rfl trivial))))))))))
    · skip
      replace h := cF (oR g1 g2) h
      refine Exists.intro none ?_
      refine And.intro (fun g3 => ?_) (fun g3 => ?_)
      · skip
        replace h := cT g3 h
        refine Exists.intro none ?_
        replace h := Option.some.inj h
        subst h
        exact (And.intro rfl (And.intro rfl (And.intro rfl (And.intro rfl (And.intro rfl (And.intro rfl (And.intro ff (And.intro rfl (And.intro rfl (And.intro rfl trivial))))))))))
      · skip
        replace h := cF g3 h
        refine Exists.intro none ?_
        refine And.intro (fun g4 => ?_) (fun g4 => ?_)
        · skip
          replace h := cT g4 h
          refine Exists.intro none ?_
          replace h := Option.some.inj h
          subst h
          exact (And.intro rfl (And.intro rfl (And.intro rfl (And.intro rfl (And.intro rfl (And.intro rfl (And.intro ff (And.intro rfl (And.intro rfl (And.intro rfl trivial))))))))))
        · skip
          replace h := cF g4 h
          refine Exists.intro none ?_
          refine Exists.intro none ?_
          obtain ⟨k8_3, h⟩ := ckS h
          refine And.intro (by have hh := (of_decide_eq_true k8_3); (try simp only [fixRows_length, List.length_map, List.length_append, List.length_take, List.length_drop, List.length_set, List.length_replicate, List.length_cons, List.length_nil] at hh); (try simp only [fixRows_length, List.length_map, List.length_append, List.length_take, List.length_drop, List.length_set, List.length_replicate, List.length_cons, List.length_nil]); omega) ?_
          refine Exists.intro none ?_
          refine Exists.intro none ?_
          obtain ⟨x10_5, e10_5, h⟩ := bS h
          obtain ⟨x10_7, e10_7, h⟩ := bS h
          refine Exists.intro (some (⟨Unit, fun _ => [(.tmp 1, .av (.int .i64 p1)), (.tmp 2, .av (.ptr 0 0)), (.tmp 3, .av (.ptr 1 0)), (.tmp 6, .av (.ptr 2 0)), (.tmp 8, .av (.int .i64 (w64 (p0.I + (1:Int))))), (.tmp 9, .av (.own 1284)), (.tmp 10, .av (.sb (p0.Next == (w64 (p0.I + (1:Int)))))), (.tmp 59, .av (.sb ((decide (((([] : List api_Link) ++ p0.Links).length : Int) > (0:Int))) && (x10_7.I == (w64 ((w64 (p0.I + (1:Int))) - p0.W)))))), (.box 0, .box [.lst 1 false (List.map (eI .i64) p2.draws_), .int .i64 p2.at_, .int .i64 p2.beyond_]), (.box 1, .box [.int .i64 p0.W, .int .i64 p0.Cap, .int .i64 p0.I, .int .i64 p0.Next, .lst 2 false (List.map enc_api_Link p0.Links)]), (.box 2, .box [.int .i64 (0:Int), .int .i64 (0:Int), .int .i64 (0:Int), .int .i64 (0:Int), .nilS]), (.tok 1284, .tok 183 2 (List.map enc_api_Link (([] : List api_Link) ++ p0.Links)))], fun _ => True, fun _ => 0⟩, 1000000)) (And.intro ?_ (fun _ _ => ?_))
          · skip
            refine Exists.intro [.int .i64 ((([] : List api_Link) ++ p0.Links).length : Int)] (And.intro (lenC (by simp only [fixRows_length, List.length_map, List.length_append, List.length_take, List.length_drop, List.length_set, List.length_replicate, List.length_cons, List.length_nil])) ?_)
            refine And.intro (fun g5 => ?_) (fun g5 => ?_)
            · skip
              refine And.intro (by have hh := idx_lt enc_api_Link (gdT g5 e10_5); (try simp only [fixRows_length, List.length_map, List.length_append, List.length_take, List.length_drop, List.length_set, List.length_replicate, List.length_cons, List.length_nil] at hh); (try simp only [fixRows_length, List.length_map, List.length_append, List.length_take, List.length_drop, List.length_set, List.length_replicate, List.length_cons, List.length_nil]); exact hh) ?_
              refine Exists.intro [.int .i64 x10_7.I, .int .i64 x10_7.V] (And.intro (by have hh := idx_elt enc_api_Link (gdT g5 e10_7); simp only [List.map_append, List.map_cons, List.map_nil, List.map_take, List.map_drop, List.map_set, List.map_replicate] at hh; exact hh) ?_)
              exact Exists.intro [] (Exists.intro [] (Exists.intro () (And.intro trivial (And.intro rfl (And.intro rfl (And.intro rfl (And.intro rfl (And.intro (Eq.symm (aR g5 rfl)) (And.intro ff (And.intro rfl (And.intro rfl (And.intro rfl (And.intro rfl (And.intro rfl (And.intro rfl (And.intro rfl (And.intro ff (And.intro rfl (And.intro rfl (And.intro rfl (And.intro rfl (And.intro rfl (And.intro (by first | rfl | (simp only [List.map_append, List.map_cons, List.map_nil, List.map_take, List.map_drop, List.map_set, List.map_replicate]; done) | (simp only [List.map_append, List.map_cons, List.map_nil, List.map_take, List.map_drop, List.map_set, List.map_replicate]; rfl) | (simp only [List.map_append, List.map_cons, List.map_nil, List.map_take, List.map_drop, List.map_set, List.map_replicate, eL, enc_api_Command, enc_tape_Tape, enc_ref27_Cursor, enc_api_Chain, enc_api_Sample, enc_chain_source, enc_made_Tape, enc_api_Answer, enc_api_Reply]; done) | (simp only [List.map_append, List.map_cons, List.map_nil, List.map_take, List.map_drop, List.map_set, List.map_replicate, eL, enc_api_Command, enc_tape_Tape, enc_ref27_Cursor, enc_api_Chain, enc_api_Sample, enc_chain_source, enc_made_Tape, enc_api_Answer, enc_api_Reply]; rfl)) trivial)))))))))))))))))))))))
            · skip
              exact Exists.intro [] (Exists.intro [] (Exists.intro () (And.intro trivial (And.intro rfl (And.intro rfl (And.intro rfl (And.intro rfl (And.intro (Eq.symm (aL g5)) (And.intro ff (And.intro rfl (And.intro rfl (And.intro rfl (And.intro rfl (And.intro rfl (And.intro rfl (And.intro rfl (And.intro ff (And.intro rfl (And.intro rfl (And.intro rfl (And.intro rfl (And.intro rfl (And.intro (by first | rfl | (simp only [List.map_append, List.map_cons, List.map_nil, List.map_take, List.map_drop, List.map_set, List.map_replicate]; done) | (simp only [List.map_append, List.map_cons, List.map_nil, List.map_take, List.map_drop, List.map_set, List.map_replicate]; rfl) | (simp only [List.map_append, List.map_cons, List.map_nil, List.map_take, List.map_drop, List.map_set, List.map_replicate, eL, enc_api_Command, enc_tape_Tape, enc_ref27_Cursor, enc_api_Chain, enc_api_Sample, enc_chain_source, enc_made_Tape, enc_api_Answer, enc_api_Reply]; done) | (simp only [List.map_append, List.map_cons, List.map_nil, List.map_take, List.map_drop, List.map_set, List.map_replicate, eL, enc_api_Command, enc_tape_Tape, enc_ref27_Cursor, enc_api_Chain, enc_api_Sample, enc_chain_source, enc_made_Tape, enc_api_Answer, enc_api_Reply]; rfl)) trivial)))))))))))))))))))))))
          · skip
            refine Exists.intro (some (⟨(List api_Link) × Bool × (List Int) × Int × Int, fun q => [(.tmp 1, .av (.int .i64 p1)), (.tmp 2, .av (.ptr 0 0)), (.tmp 3, .av (.ptr 1 0)), (.tmp 6, .av (.ptr 2 0)), (.tmp 8, .av (.int .i64 (w64 (p0.I + (1:Int))))), (.tmp 9, .av (.own 1999999)), (.tmp 10, .av (.sb q.2.1)), (.box 0, .box [.lst 1 false (List.map (eI .i64) q.2.2.1), .int .i64 q.2.2.2.1, .int .i64 q.2.2.2.2]), (.box 1, .box [.int .i64 p0.W, .int .i64 p0.Cap, .int .i64 p0.I, .int .i64 p0.Next, .lst 2 false (List.map enc_api_Link p0.Links)]), (.box 2, .box [.int .i64 (0:Int), .int .i64 (0:Int), .int .i64 (0:Int), .int .i64 (0:Int), .nilS]), (.tok 1999999, .tok 183 2 (List.map enc_api_Link q.1))], fun q => chain_add_j5 p0 p1 q.1 q.2.1 q.2.2.1 q.2.2.2.1 q.2.2.2.2 = some r, fun _ => 0⟩, 2000000)) (And.intro ?_ ?_)
            · skip
              refine And.intro (fun g6 => ?_) (fun g6 => ?_)
              · skip
                replace h := cT g6 h
                refine Exists.intro none ?_
                obtain ⟨k11_1, h⟩ := ckS h
                refine And.intro (by have hh := (of_decide_eq_true k11_1); (try simp only [fixRows_length, List.length_map, List.length_append, List.length_take, List.length_drop, List.length_set, List.length_replicate, List.length_cons, List.length_nil] at hh); (try simp only [fixRows_length, List.length_map, List.length_append, List.length_take, List.length_drop, List.length_set, List.length_replicate, List.length_cons, List.length_nil]); omega) ?_
                exact Exists.intro [(1999999, some 1000001)] (Exists.intro [] (Exists.intro (((([] : List api_Link) ++ p0.Links).drop ((1:Int)).toNat), (p0.Next == (w64 (p0.I + (1:Int)))), p2.draws_, p2.at_, p2.beyond_) (And.intro h (And.intro rfl (And.intro rfl (And.intro rfl (And.intro rfl (And.intro ff (And.intro rfl (And.intro rfl (And.intro rfl (And.intro rfl (And.intro rfl (And.intro rfl (And.intro rfl (And.intro ff (And.intro rfl (And.intro rfl (And.intro rfl (And.intro rfl (And.intro rfl (And.intro (by first | rfl | (simp only [List.map_append, List.map_cons, List.map_nil, List.map_take, List.map_drop, List.map_set, List.map_replicate]; done) | (simp only [List.map_append, List.map_cons, List.map_nil, List.map_take, List.map_drop, List.map_set, List.map_replicate]; rfl) | (simp only [List.map_append, List.map_cons, List.map_nil, List.map_take, List.map_drop, List.map_set, List.map_replicate, eL, enc_api_Command, enc_tape_Tape, enc_ref27_Cursor, enc_api_Chain, enc_api_Sample, enc_chain_source, enc_made_Tape, enc_api_Answer, enc_api_Reply]; done) | (simp only [List.map_append, List.map_cons, List.map_nil, List.map_take, List.map_drop, List.map_set, List.map_replicate, eL, enc_api_Command, enc_tape_Tape, enc_ref27_Cursor, enc_api_Chain, enc_api_Sample, enc_chain_source, enc_made_Tape, enc_api_Answer, enc_api_Reply]; rfl)) trivial))))))))))))))))))))))
              · skip
                replace h := cF g6 h
                refine Exists.intro none ?_
                obtain ⟨y12_5, e12_5, h⟩ := bS h
                refine Exists.intro _ (Exists.intro _ (And.intro (Contract.wk (c_chain_source_next p2 (imin (w64 (p0.I + (1:Int))) p0.W) y12_5 e12_5) (And.intro rfl (And.intro ff (And.intro rfl (And.intro rfl (And.intro rfl trivial)))))) (And.intro rfl ?_)))
                refine Exists.intro none ?_
                refine And.intro (fun g7 => ?_) (fun g7 => ?_)
                · skip
                  replace h := cT g7 h
                  refine Exists.intro none ?_
                  replace h := Option.some.inj h
                  subst h
                  exact (And.intro rfl (And.intro rfl (And.intro rfl (And.intro rfl (And.intro rfl (And.intro rfl (And.intro ff (And.intro rfl (And.intro rfl (And.intro rfl trivial))))))))))
                · skip
                  replace h := cF g7 h
                  refine Exists.intro none ?_
                  refine Exists.intro none ?_
                  refine And.intro (fun g8 => ?_) (fun g8 => ?_)
                  · skip
                    replace h := cT g8 h
                    refine Exists.intro none ?_
                    exact Exists.intro [(1999999, none)] (Exists.intro [] (Exists.intro (([] : List api_Link), true, y12_5.2.2.draws_, y12_5.2.2.at_, y12_5.2.2.beyond_) (And.intro h (And.intro rfl (And.intro rfl (And.intro rfl (And.intro rfl (And.intro ff (And.intro rfl (And.intro rfl (And.intro rfl (And.intro rfl (And.intro rfl (And.intro rfl (And.intro rfl (And.intro ff (And.intro rfl (And.intro rfl (And.intro rfl (And.intro rfl (And.intro rfl (And.intro rfl trivial))))))))))))))))))))))
                  · skip
                    replace h := cF g8 h
                    exact Exists.intro [(1999999, some 1284)] (Exists.intro [] (Exists.intro ((([] : List api_Link) ++ p0.Links), (p0.Next == (w64 (p0.I + (1:Int)))), y12_5.2.2.draws_, y12_5.2.2.at_, y12_5.2.2.beyond_) (And.intro h (And.intro rfl (And.intro rfl (And.intro rfl (And.intro rfl (And.intro ff (And.intro rfl (And.intro rfl (And.intro rfl (And.intro rfl (And.intro rfl (And.intro rfl (And.intro rfl (And.intro ff (And.intro rfl (And.intro rfl (And.intro rfl (And.intro rfl (And.intro rfl (And.intro rfl trivial))))))))))))))))))))))
            · skip
              clear h
              refine fun q h => ?_
              obtain ⟨j5_9, j5_10, j5_b0_0, j5_b0_1, j5_b0_2⟩ := q
              replace h : chain_add_j5 p0 p1 j5_9 j5_10 j5_b0_0 j5_b0_1 j5_b0_2 = some r := h
              delta chain_add_j5 at h
              refine Exists.intro none ?_
              refine Exists.intro (some (⟨(List api_Link) × (List Int) × Int × Int × Int, fun q => [(.tmp 3, .av (.ptr 1 0)), (.tmp 6, .av (.ptr 2 0)), (.tmp 8, .av (.int .i64 (w64 (p0.I + (1:Int))))), (.tmp 9, .av (.own 2999999)), (.box 0, .box [.lst 1 false (List.map (eI .i64) q.2.1), .int .i64 q.2.2.1, .int .i64 q.2.2.2.1]), (.box 1, .box [.int .i64 p0.W, .int .i64 p0.Cap, .int .i64 p0.I, .int .i64 q.2.2.2.2, .lst 2 false (List.map enc_api_Link p0.Links)]), (.box 2, .box [.int .i64 (0:Int), .int .i64 (0:Int), .int .i64 (0:Int), .int .i64 (0:Int), .nilS]), (.tok 2999999, .tok 183 2 (List.map enc_api_Link q.1))], fun q => chain_add_j8 p0 q.1 q.2.1 q.2.2.1 q.2.2.2.1 q.2.2.2.2 = some r, fun _ => 0⟩, 3000000)) (And.intro ?_ ?_)
              · skip
                refine And.intro (fun g9 => ?_) (fun g9 => ?_)
                · skip
                  replace h := cT g9 h
                  refine Exists.intro none ?_
                  refine Exists.intro [.int .i64 (j5_9.length : Int)] (And.intro (lenS enc_api_Link j5_9) ?_)
                  refine And.intro (fun g10 => ?_) (fun g10 => ?_)
                  · skip
                    replace h := cT g10 h
                    refine Exists.intro none ?_
                    replace h := Option.some.inj h
                    subst h
                    exact (And.intro rfl (And.intro rfl (And.intro rfl (And.intro rfl (And.intro rfl (And.intro rfl (And.intro ff (And.intro rfl (And.intro rfl (And.intro rfl trivial))))))))))
                  · skip
                    replace h := cF g10 h
                    refine Exists.intro none ?_
                    obtain ⟨k20_5, h⟩ := ckS h
                    refine And.intro (by have hh := (of_decide_eq_true k20_5); (try simp only [fixRows_length, List.length_map, List.length_append, List.length_take, List.length_drop, List.length_set, List.length_replicate, List.length_cons, List.length_nil] at hh); (try simp only [fixRows_length, List.length_map, List.length_append, List.length_take, List.length_drop, List.length_set, List.length_replicate, List.length_cons, List.length_nil]); omega) ?_
                    refine Exists.intro none ?_
                    obtain ⟨y21_3, e21_3, h⟩ := bS h
                    refine Exists.intro _ (Exists.intro _ (And.intro (Contract.wk (c_chain_source_next (chain_source.mk j5_b0_0 j5_b0_1 j5_b0_2) p0.W y21_3 e21_3) (And.intro rfl (And.intro ff (And.intro rfl (And.intro rfl (And.intro rfl trivial)))))) (And.intro rfl ?_)))
                    refine Exists.intro none ?_
                    refine And.intro (fun g11 => ?_) (fun g11 => ?_)
                    · skip
                      replace h := cT g11 h
                      refine Exists.intro none ?_
                      replace h := Option.some.inj h
                      subst h
                      exact (And.intro rfl (And.intro rfl (And.intro rfl (And.intro rfl (And.intro rfl (And.intro rfl (And.intro ff (And.intro rfl (And.intro rfl (And.intro rfl trivial))))))))))
                    · skip
                      replace h := cF g11 h
                      refine Exists.intro none ?_
                      exact Exists.intro [(2999999, some 2000517)] (Exists.intro [] (Exists.intro ((j5_9 ++ [(api_Link.mk (w64 (p0.I + (1:Int))) p1)]), y21_3.2.2.draws_, y21_3.2.2.at_, y21_3.2.2.beyond_, (w64 ((w64 ((w64 (p0.I + (1:Int))) + (1:Int))) + y21_3.1))) (And.intro h (And.intro rfl (And.intro rfl (And.intro ff (And.intro rfl (And.intro rfl (And.intro rfl (And.intro rfl (And.intro rfl (And.intro rfl (And.intro rfl (And.intro ff (And.intro rfl (And.intro rfl (And.intro rfl (And.intro rfl (And.intro rfl (And.intro (by first | rfl | (simp only [List.map_append, List.map_cons, List.map_nil, List.map_take, List.map_drop, List.map_set, List.map_replicate]; done) | (simp only [List.map_append, List.map_cons, List.map_nil, List.map_take, List.map_drop, List.map_set, List.map_replicate]; rfl) | (simp only [List.map_append, List.map_cons, List.map_nil, List.map_take, List.map_drop, List.map_set, List.map_replicate, eL, enc_api_Command, enc_tape_Tape, enc_ref27_Cursor, enc_api_Chain, enc_api_Sample, enc_chain_source, enc_made_Tape, enc_api_Answer, enc_api_Reply]; done) | (simp only [List.map_append, List.map_cons, List.map_nil, List.map_take, List.map_drop, List.map_set, List.map_replicate, eL, enc_api_Command, enc_tape_Tape, enc_ref27_Cursor, enc_api_Chain, enc_api_Sample, enc_chain_source, enc_made_Tape, enc_api_Answer, enc_api_Reply]; rfl)) trivial))))))))))))))))))))
                · skip
                  replace h := cF g9 h
                  exact Exists.intro [(2999999, some 1999999)] (Exists.intro [] (Exists.intro (j5_9, j5_b0_0, j5_b0_1, j5_b0_2, p0.Next) (And.intro h (And.intro rfl (And.intro rfl (And.intro ff (And.intro rfl (And.intro rfl (And.intro rfl (And.intro rfl (And.intro rfl (And.intro rfl (And.intro rfl (And.intro ff (And.intro rfl (And.intro rfl (And.intro rfl (And.intro rfl (And.intro rfl (And.intro rfl trivial))))))))))))))))))))
              · skip
                clear h
                refine fun q h => ?_
                obtain ⟨j8_9, j8_b0_0, j8_b0_1, j8_b0_2, j8_b0x0_3⟩ := q
                replace h : chain_add_j8 p0 j8_9 j8_b0_0 j8_b0_1 j8_b0_2 j8_b0x0_3 = some r := h
                delta chain_add_j8 at h
                refine Exists.intro none ?_
                refine Exists.intro none ?_
                replace h := Option.some.inj h
                subst h
                exact (And.intro rfl (And.intro rfl (And.intro rfl (And.intro rfl (And.intro ff (And.intro rfl (And.intro rfl (And.intro ff (And.intro rfl (And.intro rfl (And.intro rfl trivial)))))))))))
  · skip
    replace h := cT (oL g1) h
    refine Exists.intro none ?_
    replace h := Option.some.inj h
    subst h
    exact (And.intro rfl (And.intro rfl (And.intro rfl (And.intro rfl (And.intro rfl (And.intro rfl (And.intro ff (And.intro rfl (And.intro rfl (And.intro rfl trivial))))))))))

theorem c_chain_Add (p0 : api_Chain) (p1 : Int) (p2 : (List Int)) (p3 : Int) (r : (api_Chain × Int × Int)) (h : chain_Add p0 p1 p2 p3 = some r) : Contract Try.prog 54 [.agg [.int .i64 p0.W, .int .i64 p0.Cap, .int .i64 p0.I, .int .i64 p0.Next, .lst 2 false (List.map enc_api_Link p0.Links)], .int .i64 p1, .lst 1 false (List.map (eI .i64) p2), .int .i64 p3] [] (.tup [.agg [.int .i64 r.1.W, .int .i64 r.1.Cap, .int .i64 r.1.I, .int .i64 r.1.Next, .lst 2 false (List.map enc_api_Link r.1.Links)], .int .i64 r.2.1, .int .i64 r.2.2]) [] := by
  refine contract_of_vcs tab_ok orders_ok Try.func54 Try.call54 (by kernel_rfl) 0 rfl rfl _ rfl ?_
  delta chain_Add at h
  refine Exists.intro none ?_
  refine Exists.intro none ?_
  obtain ⟨y1_1, e1_1, h⟩ := bS h
  refine Exists.intro _ (Exists.intro _ (And.intro (Contract.wk (c_chain_Validate p0 y1_1 e1_1) (And.intro rfl (And.intro rfl (And.intro rfl (And.intro rfl (And.intro ff (And.intro rfl trivial))))))) (And.intro rfl ?_)))
  refine Exists.intro none ?_
  refine And.intro (fun g1 => ?_) (fun g1 => ?_)
  · skip
    replace h := cT g1 h
    refine Exists.intro none ?_
    replace h := Option.some.inj h
    subst h
    exact (And.intro rfl (And.intro rfl (And.intro rfl (And.intro rfl (And.intro rfl (And.intro rfl (And.intro rfl trivial)))))))
  · skip
    replace h := cF g1 h
    refine Exists.intro none ?_
    refine Exists.intro none ?_
    obtain ⟨y5_3, e5_3, h⟩ := bS h
    refine Exists.intro _ (Exists.intro _ (And.intro (Contract.wk (c_chain_add p0 p1 (chain_source.mk p2 p3 (0:Int)) y5_3 e5_3) (And.intro rfl (And.intro rfl (And.intro rfl (And.intro rfl (And.intro ff (And.intro rfl (And.intro rfl (And.intro ff (And.intro rfl (And.intro rfl (And.intro rfl trivial)))))))))))) (And.intro rfl ?_)))
    refine Exists.intro none ?_
    refine And.intro (fun g2 => ?_) (fun g2 => ?_)
    · skip
      replace h := cT g2 h
      refine Exists.intro none ?_
      replace h := Option.some.inj h
      subst h
      exact (And.intro rfl (And.intro rfl (And.intro rfl (And.intro rfl (And.intro rfl (And.intro rfl (And.intro rfl trivial)))))))
    · skip
      replace h := cF g2 h
      refine Exists.intro none ?_
      replace h := Option.some.inj h
      subst h
      exact (And.intro rfl (And.intro rfl (And.intro rfl (And.intro rfl (And.intro ff (And.intro rfl (And.intro rfl (And.intro rfl trivial))))))))

theorem c_sample_Add (p0 : api_Sample) (p1 : Int) (p2 : (List Int)) (r : (api_Sample × Int)) (h : sample_Add p0 p1 p2 = some r) : Contract Try.prog 44 [.agg [.lst 5 false (List.map enc_api_Chain p0.Chains)], .int .i64 p1, .lst 1 false (List.map (eI .i64) p2)] [] (.tup [.agg [.lst 5 false (List.map enc_api_Chain r.1.Chains)], .int .i64 r.2]) [] := by
  refine contract_of_vcs tab_ok orders_ok Try.func44 Try.call44 (by kernel_rfl) 0 rfl rfl _ rfl ?_
  delta sample_Add at h
  refine Exists.intro none ?_
  refine Exists.intro none ?_
  obtain ⟨y1_1, e1_1, h⟩ := bS h
  refine Exists.intro _ (Exists.intro _ (And.intro (Contract.wk (c_sample_Validate p0 y1_1 e1_1) (And.intro ff (And.intro rfl trivial))) (And.intro rfl ?_)))
  refine Exists.intro none ?_
  refine And.intro (fun g1 => ?_) (fun g1 => ?_)
  · skip
    replace h := cT g1 h
    refine Exists.intro none ?_
    replace h := Option.some.inj h
    subst h
    exact (And.intro rfl (And.intro rfl trivial))
  · skip
    replace h := cF g1 h
    refine Exists.intro none ?_
    refine Exists.intro none ?_
    refine Exists.intro none ?_
    refine Exists.intro [.int .i64 (p0.Chains.length : Int)] (And.intro (lenS enc_api_Chain p0.Chains) ?_)
    replace h : sample_Add_l3 p0 p1 p2 (0:Int) (0:Int) ([] : List api_Chain) = some r := h
    delta sample_Add_l3 at h
    obtain ⟨n1, h⟩ := loopS h
    refine Exists.intro ⟨(Int × Int × (List api_Chain)) × Nat, fun q => [(.tmp 1, .av (.int .i64 p1)), (.tmp 2, .av (.lst 1 false (List.map (eI .i64) p2))), (.tmp 6, .av (.ptr 1 0)), (.tmp 9, .av (.ptr 768 0)), (.tmp 10, .av (.int .i64 q.1.1)), (.tmp 23, .av (.lst 5 false (List.map enc_api_Chain p0.Chains))), (.tmp 24, .av (.int .i64 (p0.Chains.length : Int))), (.tmp 25, .av (.int .i64 q.1.2.1)), (.box 1, .box [.nilS]), (.box 768, .box [.own 1535]), (.tok 1535, .tok 78 5 (List.map enc_api_Chain q.1.2.2))], fun q => loopN (fun (s : (Int × Int × (List api_Chain))) => sample_Add_l3s p0 p1 p2 s.1 s.2.1 s.2.2) q.2 q.1 = some r, fun q => q.2⟩ (And.intro (Exists.intro [(1535, none)] (Exists.intro [] (Exists.intro (((0:Int), (0:Int), ([] : List api_Chain)), n1) (And.intro h (And.intro rfl (And.intro rfl (And.intro ff (And.intro rfl (And.intro rfl (And.intro ff (And.intro rfl (And.intro rfl (And.intro rfl (And.intro rfl trivial)))))))))))))) ?_)
    clear h
    refine fun q h => ?_
    obtain ⟨⟨v3_10, v3_25, v3_b4x0_0⟩, n1⟩ := q
    obtain ⟨m1, x1, hm1, h, hl1, hr1⟩ := loopN_step h
    replace hm1 : n1 = m1 + 1 := hm1
    subst hm1
    replace h : sample_Add_l3s p0 p1 p2 v3_10 v3_25 v3_b4x0_0 = some x1 := h
    delta sample_Add_l3s at h
    refine Exists.intro none ?_
    refine And.intro (fun g2 => ?_) (fun g2 => ?_)
    · skip
      replace h := cT g2 h
      refine Exists.intro none ?_
      obtain ⟨x8_0, e8_0, h⟩ := bS h
      refine Exists.intro [.int .i64 x8_0.W, .int .i64 x8_0.Cap, .int .i64 x8_0.I, .int .i64 x8_0.Next, .lst 2 false (List.map enc_api_Link x8_0.Links)] (And.intro (idx_map enc_api_Chain e8_0) ?_)
      refine Exists.intro none ?_
      obtain ⟨y9_4, e9_4, h⟩ := bS h
      refine Exists.intro _ (Exists.intro _ (And.intro (Contract.wk (c_chain_Add x8_0 p1 p2 v3_10 y9_4 e9_4) (And.intro rfl (And.intro rfl (And.intro rfl (And.intro rfl (And.intro ff (And.intro rfl (And.intro rfl (And.intro ff (And.intro rfl (And.intro rfl trivial))))))))))) (And.intro rfl ?_)))
      refine Exists.intro none ?_
      refine And.intro (fun g3 => ?_) (fun g3 => ?_)
      · skip
        replace h := cT g3 h
        refine Exists.intro none ?_
        replace h := retS h hr1
        subst h
        exact (And.intro rfl (And.intro rfl trivial))
      · skip
        replace h := cF g3 h
        refine Exists.intro none ?_
        refine Exists.intro none ?_
        obtain ⟨k13_4, h⟩ := ckS h
        refine And.intro (by have hh := (of_decide_eq_true k13_4); (try simp only [fixRows_length, List.length_map, List.length_append, List.length_take, List.length_drop, List.length_set, List.length_replicate, List.length_cons, List.length_nil] at hh); (try simp only [fixRows_length, List.length_map, List.length_append, List.length_take, List.length_drop, List.length_set, List.length_replicate, List.length_cons, List.length_nil]); omega) ?_
        refine Exists.intro none ?_
        exact Exists.intro [(1535, some 2820)] (Exists.intro [] (Exists.intro ((y9_4.2.1, (w64 (v3_25 + (1:Int))), (v3_b4x0_0 ++ [y9_4.1])), m1) (And.intro (hl1 (y9_4.2.1, (w64 (v3_25 + (1:Int))), (v3_b4x0_0 ++ [y9_4.1])) (Option.some.inj h).symm) (And.intro (Nat.lt_succ_self m1) (And.intro rfl (And.intro rfl (And.intro ff (And.intro rfl (And.intro rfl (And.intro ff (And.intro rfl (And.intro rfl (And.intro rfl (And.intro (by first | rfl | (simp only [List.map_append, List.map_cons, List.map_nil, List.map_take, List.map_drop, List.map_set, List.map_replicate]; done) | (simp only [List.map_append, List.map_cons, List.map_nil, List.map_take, List.map_drop, List.map_set, List.map_replicate]; rfl) | (simp only [List.map_append, List.map_cons, List.map_nil, List.map_take, List.map_drop, List.map_set, List.map_replicate, eL, enc_api_Command, enc_tape_Tape, enc_ref27_Cursor, enc_api_Chain, enc_api_Sample, enc_chain_source, enc_made_Tape, enc_api_Answer, enc_api_Reply]; done) | (simp only [List.map_append, List.map_cons, List.map_nil, List.map_take, List.map_drop, List.map_set, List.map_replicate, eL, enc_api_Command, enc_tape_Tape, enc_ref27_Cursor, enc_api_Chain, enc_api_Sample, enc_chain_source, enc_made_Tape, enc_api_Answer, enc_api_Reply]; rfl)) trivial))))))))))))))
    · skip
      replace h := cF g2 h
      replace h := popS h hr1
      refine Exists.intro none ?_
      refine Exists.intro [.int .i64 (p2.length : Int)] (And.intro (lenS (eI .i64) p2) ?_)
      refine And.intro (fun g4 => ?_) (fun g4 => ?_)
      · skip
        replace h := cT g4 h
        refine Exists.intro none ?_
        replace h := Option.some.inj h
        subst h
        exact (And.intro rfl (And.intro rfl trivial))
      · skip
        replace h := cF g4 h
        refine Exists.intro none ?_
        replace h := Option.some.inj h
        subst h
        exact (And.intro ff (And.intro rfl (And.intro rfl trivial)))

theorem c_chain_Ask (p0 : api_Chain) (r : (Int × Int)) (h : chain_Ask p0 = some r) : Contract Try.prog 95 [.agg [.int .i64 p0.W, .int .i64 p0.Cap, .int .i64 p0.I, .int .i64 p0.Next, .lst 2 false (List.map enc_api_Link p0.Links)]] [] (.tup [.int .i64 r.1, .int .i64 r.2]) [] := by
  refine contract_of_vcs tab_ok orders_ok Try.func95 Try.call95 (by kernel_rfl) 0 rfl rfl _ rfl ?_
  delta chain_Ask at h
  refine Exists.intro none ?_
  refine Exists.intro none ?_
  obtain ⟨y1_1, e1_1, h⟩ := bS h
  refine Exists.intro _ (Exists.intro _ (And.intro (Contract.wk (c_chain_Validate p0 y1_1 e1_1) (And.intro rfl (And.intro rfl (And.intro rfl (And.intro rfl (And.intro ff (And.intro rfl trivial))))))) (And.intro rfl ?_)))
  refine Exists.intro none ?_
  refine And.intro (fun g1 => ?_) (fun g1 => ?_)
  · skip
    replace h := cT g1 h
    refine Exists.intro none ?_
    replace h := Option.some.inj h
    subst h
    exact (And.intro rfl (And.intro rfl trivial))
  · skip
    replace h := cF g1 h
    refine Exists.intro none ?_
    refine Exists.intro [.int .i64 (p0.Links.length : Int)] (And.intro (lenS enc_api_Link p0.Links) ?_)
    refine And.intro (fun g2 => ?_) (fun g2 => ?_)
    · skip
      replace h := cT g2 h
      refine Exists.intro none ?_
      replace h := Option.some.inj h
      subst h
      exact (And.intro rfl (And.intro rfl trivial))
    · skip
      replace h := cF g2 h
      refine Exists.intro none ?_
      obtain ⟨x6_2, e6_2, h⟩ := bS h
      refine Exists.intro [.int .i64 x6_2.I, .int .i64 x6_2.V] (And.intro (idx_map enc_api_Link e6_2) ?_)
      replace h := Option.some.inj h
      subst h
      exact (And.intro rfl (And.intro rfl trivial))

theorem c_sample_Ask (p0 : api_Sample) (r : ((List Int) × Int)) (h : sample_Ask p0 = some r) : Contract Try.prog 39 [.agg [.lst 5 false (List.map enc_api_Chain p0.Chains)]] [] (.tup [.lst 1 false (List.map (eI .i64) r.1), .int .i64 r.2]) [] := by
  refine contract_of_vcs tab_ok orders_ok Try.func39 Try.call39 (by kernel_rfl) 0 rfl rfl _ rfl ?_
  delta sample_Ask at h
  refine Exists.intro none ?_
  refine Exists.intro none ?_
  obtain ⟨y1_1, e1_1, h⟩ := bS h
  refine Exists.intro _ (Exists.intro _ (And.intro (Contract.wk (c_sample_Validate p0 y1_1 e1_1) (And.intro ff (And.intro rfl trivial))) (And.intro rfl ?_)))
  refine Exists.intro none ?_
  refine And.intro (fun g1 => ?_) (fun g1 => ?_)
  · skip
    replace h := cT g1 h
    refine Exists.intro none ?_
    replace h := Option.some.inj h
    subst h
    exact (And.intro rfl (And.intro rfl trivial))
  · skip
    replace h := cF g1 h
    refine Exists.intro none ?_
    refine Exists.intro none ?_
    refine Exists.intro [.int .i64 (p0.Chains.length : Int)] (And.intro (lenS enc_api_Chain p0.Chains) ?_)
    replace h : sample_Ask_l3 p0 ([] : List Int) (0:Int) = some r := h
    delta sample_Ask_l3 at h
    obtain ⟨n1, h⟩ := loopS h
    refine Exists.intro ⟨((List Int) × Int) × Nat, fun q => [(.tmp 5, .av (.own 1279)), (.tmp 16, .av (.lst 5 false (List.map enc_api_Chain p0.Chains))), (.tmp 17, .av (.int .i64 (p0.Chains.length : Int))), (.tmp 18, .av (.int .i64 q.1.2)), (.tok 1279, .tok 2 1 (List.map (eI .i64) q.1.1))], fun q => loopN (fun (s : ((List Int) × Int)) => sample_Ask_l3s p0 s.1 s.2) q.2 q.1 = some r, fun q => q.2⟩ (And.intro (Exists.intro [(1279, none)] (Exists.intro [] (Exists.intro ((([] : List Int), (0:Int)), n1) (And.intro h (And.intro rfl (And.intro ff (And.intro rfl (And.intro rfl (And.intro rfl (And.intro rfl trivial)))))))))) ?_)
    clear h
    refine fun q h => ?_
    obtain ⟨⟨v3_5, v3_18⟩, n1⟩ := q
    obtain ⟨m1, x1, hm1, h, hl1, hr1⟩ := loopN_step h
    replace hm1 : n1 = m1 + 1 := hm1
    subst hm1
    replace h : sample_Ask_l3s p0 v3_5 v3_18 = some x1 := h
    delta sample_Ask_l3s at h
    refine Exists.intro none ?_
    refine And.intro (fun g2 => ?_) (fun g2 => ?_)
    · skip
      replace h := cT g2 h
      refine Exists.intro none ?_
      obtain ⟨x7_0, e7_0, h⟩ := bS h
      refine Exists.intro [.int .i64 x7_0.W, .int .i64 x7_0.Cap, .int .i64 x7_0.I, .int .i64 x7_0.Next, .lst 2 false (List.map enc_api_Link x7_0.Links)] (And.intro (idx_map enc_api_Chain e7_0) ?_)
      refine Exists.intro none ?_
      obtain ⟨y8_1, e8_1, h⟩ := bS h
      refine Exists.intro _ (Exists.intro _ (And.intro (Contract.wk (c_chain_Ask x7_0 y8_1 e8_1) (And.intro rfl (And.intro rfl (And.intro rfl (And.intro rfl (And.intro ff (And.intro rfl trivial))))))) (And.intro rfl ?_)))
      refine Exists.intro none ?_
      refine And.intro (fun g3 => ?_) (fun g3 => ?_)
      · skip
        replace h := cT g3 h
        refine Exists.intro none ?_
        replace h := retS h hr1
        subst h
        exact (And.intro rfl (And.intro rfl trivial))
      · skip
        replace h := cF g3 h
        refine Exists.intro none ?_
        obtain ⟨k11_3, h⟩ := ckS h
        refine And.intro (by have hh := (of_decide_eq_true k11_3); (try simp only [fixRows_length, List.length_map, List.length_append, List.length_take, List.length_drop, List.length_set, List.length_replicate, List.length_cons, List.length_nil] at hh); (try simp only [fixRows_length, List.length_map, List.length_append, List.length_take, List.length_drop, List.length_set, List.length_replicate, List.length_cons, List.length_nil]); omega) ?_
        refine Exists.intro none ?_
        exact Exists.intro [(1279, some 2307)] (Exists.intro [] (Exists.intro (((v3_5 ++ [y8_1.1]), (w64 (v3_18 + (1:Int)))), m1) (And.intro (hl1 ((v3_5 ++ [y8_1.1]), (w64 (v3_18 + (1:Int)))) (Option.some.inj h).symm) (And.intro (Nat.lt_succ_self m1) (And.intro rfl (And.intro ff (And.intro rfl (And.intro rfl (And.intro rfl (And.intro (by first | rfl | (simp only [List.map_append, List.map_cons, List.map_nil, List.map_take, List.map_drop, List.map_set, List.map_replicate]; done) | (simp only [List.map_append, List.map_cons, List.map_nil, List.map_take, List.map_drop, List.map_set, List.map_replicate]; rfl) | (simp only [List.map_append, List.map_cons, List.map_nil, List.map_take, List.map_drop, List.map_set, List.map_replicate, eL, enc_api_Command, enc_tape_Tape, enc_ref27_Cursor, enc_api_Chain, enc_api_Sample, enc_chain_source, enc_made_Tape, enc_api_Answer, enc_api_Reply]; done) | (simp only [List.map_append, List.map_cons, List.map_nil, List.map_take, List.map_drop, List.map_set, List.map_replicate, eL, enc_api_Command, enc_tape_Tape, enc_ref27_Cursor, enc_api_Chain, enc_api_Sample, enc_chain_source, enc_made_Tape, enc_api_Answer, enc_api_Reply]; rfl)) trivial))))))))))
    · skip
      replace h := cF g2 h
      replace h := popS h hr1
      refine Exists.intro none ?_
      replace h := Option.some.inj h
      subst h
      exact (And.intro ff (And.intro rfl (And.intro rfl trivial)))

theorem c_law19_awake (r : Bool) (h : law19_awake = some r) : Contract Try.prog 37 [] [] (.sb r) [] := by
  refine contract_of_vcs tab_ok orders_ok Try.func37 Try.call37 (by kernel_rfl) 0 rfl rfl _ rfl ?_
  delta law19_awake at h
  refine Exists.intro none ?_
  refine Exists.intro none ?_
  obtain ⟨y1_0, e1_0, h⟩ := bS h
  refine Exists.intro _ (Exists.intro _ (And.intro (Contract.wk (c_sample_New (2:Int) (1:Int) (3:Int) y1_0 e1_0) (And.intro rfl (And.intro rfl (And.intro rfl trivial)))) (And.intro rfl ?_)))
  refine Exists.intro none ?_
  obtain ⟨y2_2, e2_2, h⟩ := bS h
  refine Exists.intro _ (Exists.intro _ (And.intro (Contract.wk (c_sample_Add y1_0.1 (7:Int) [(0:Int), (0:Int), (0:Int), (0:Int)] y2_2 e2_2) (And.intro ff (And.intro rfl (And.intro rfl (And.intro ff (And.intro (by first | rfl | (simp only [List.map_append, List.map_cons, List.map_nil, List.map_take, List.map_drop, List.map_set, List.map_replicate]; done) | (simp only [List.map_append, List.map_cons, List.map_nil, List.map_take, List.map_drop, List.map_set, List.map_replicate]; rfl) | (simp only [List.map_append, List.map_cons, List.map_nil, List.map_take, List.map_drop, List.map_set, List.map_replicate, eL, enc_api_Command, enc_tape_Tape, enc_ref27_Cursor, enc_api_Chain, enc_api_Sample, enc_chain_source, enc_made_Tape, enc_api_Answer, enc_api_Reply]; done) | (simp only [List.map_append, List.map_cons, List.map_nil, List.map_take, List.map_drop, List.map_set, List.map_replicate, eL, enc_api_Command, enc_tape_Tape, enc_ref27_Cursor, enc_api_Chain, enc_api_Sample, enc_chain_source, enc_made_Tape, enc_api_Answer, enc_api_Reply]; rfl)) trivial)))))) (And.intro rfl ?_)))
  refine Exists.intro none ?_
  obtain ⟨y3_1, e3_1, h⟩ := bS h
  refine Exists.intro _ (Exists.intro _ (And.intro (Contract.wk (c_sample_Ask y2_2.1 y3_1 e3_1) (And.intro ff (And.intro rfl trivial))) (And.intro rfl ?_)))
  refine Exists.intro none ?_
  obtain ⟨y4_13, e4_13, h⟩ := bS h
  refine Exists.intro none ?_
  refine And.intro (fun g1 => ?_) (fun g1 => ?_)
  · skip
    refine And.intro (fun g2 => ?_) (fun g2 => ?_)
    · skip
      refine And.intro (fun g3 => ?_) (fun g3 => ?_)
      · skip
        refine Exists.intro _ (Exists.intro _ (And.intro (Contract.wk (c_ref09_SameNumbers y3_1.1 [(7:Int), (7:Int)] y4_13 (gdT (aR (aR g1 g2) g3) e4_13)) (And.intro ff (And.intro rfl (And.intro ff (And.intro (by first | rfl | (simp only [List.map_append, List.map_cons, List.map_nil, List.map_take, List.map_drop, List.map_set, List.map_replicate]; done) | (simp only [List.map_append, List.map_cons, List.map_nil, List.map_take, List.map_drop, List.map_set, List.map_replicate]; rfl) | (simp only [List.map_append, List.map_cons, List.map_nil, List.map_take, List.map_drop, List.map_set, List.map_replicate, eL, enc_api_Command, enc_tape_Tape, enc_ref27_Cursor, enc_api_Chain, enc_api_Sample, enc_chain_source, enc_made_Tape, enc_api_Answer, enc_api_Reply]; done) | (simp only [List.map_append, List.map_cons, List.map_nil, List.map_take, List.map_drop, List.map_set, List.map_replicate, eL, enc_api_Command, enc_tape_Tape, enc_ref27_Cursor, enc_api_Chain, enc_api_Sample, enc_chain_source, enc_made_Tape, enc_api_Answer, enc_api_Reply]; rfl)) trivial))))) (And.intro rfl ?_)))
        replace h := Option.some.inj h
        subst h
        exact (And.intro (Eq.symm (aR (aR (aR g1 g2) g3) rfl)) trivial)
      · skip
        replace h := Option.some.inj h
        subst h
        exact (And.intro (Eq.symm (aL (aR (aR g1 g2) g3))) trivial)
    · skip
      replace h := Option.some.inj h
      subst h
      exact (And.intro (Eq.symm (aL (aL (aR g1 g2)))) trivial)
  · skip
    replace h := Option.some.inj h
    subst h
    exact (And.intro (Eq.symm (aL (aL (aL g1)))) trivial)

theorem c_chain_Needs (p0 : api_Chain) (p1 : Int) (p2 : (List Int)) (p3 : Int) (r : (Int × Bool)) (h : chain_Needs p0 p1 p2 p3 = some r) : Contract Try.prog 101 [.agg [.int .i64 p0.W, .int .i64 p0.Cap, .int .i64 p0.I, .int .i64 p0.Next, .lst 2 false (List.map enc_api_Link p0.Links)], .int .i64 p1, .lst 1 false (List.map (eI .i64) p2), .int .i64 p3] [] (.tup [.int .i64 r.1, .sb r.2]) [] := by
  refine contract_of_vcs tab_ok orders_ok Try.func101 Try.call101 (by kernel_rfl) 0 rfl rfl _ rfl ?_
  delta chain_Needs at h
  refine Exists.intro none ?_
  refine Exists.intro none ?_
  obtain ⟨y1_1, e1_1, h⟩ := bS h
  refine Exists.intro _ (Exists.intro _ (And.intro (Contract.wk (c_chain_Validate p0 y1_1 e1_1) (And.intro rfl (And.intro rfl (And.intro rfl (And.intro rfl (And.intro ff (And.intro rfl trivial))))))) (And.intro rfl ?_)))
  refine And.intro (fun g1 => ?_) (fun g1 => ?_)
  · skip
    replace h := cT g1 h
    refine Exists.intro none ?_
    replace h := Option.some.inj h
    subst h
    exact (And.intro rfl (And.intro rfl trivial))
  · skip
    replace h := cF g1 h
    refine Exists.intro none ?_
    refine Exists.intro none ?_
    obtain ⟨y4_3, e4_3, h⟩ := bS h
    refine Exists.intro _ (Exists.intro _ (And.intro (Contract.wk (c_chain_add p0 p1 (chain_source.mk p2 p3 (0:Int)) y4_3 e4_3) (And.intro rfl (And.intro rfl (And.intro rfl (And.intro rfl (And.intro ff (And.intro rfl (And.intro rfl (And.intro ff (And.intro rfl (And.intro rfl (And.intro rfl trivial)))))))))))) (And.intro rfl ?_)))
    refine Exists.intro none ?_
    refine Exists.intro none ?_
    refine And.intro (fun g2 => ?_) (fun g2 => ?_)
    · skip
      refine And.intro (fun g3 => ?_) (fun g3 => ?_)
      · skip
        replace h := cT (oR g2 g3) h
        refine Exists.intro none ?_
        replace h := Option.some.inj h
        subst h
        exact (And.intro rfl (And.intro rfl trivial))
      · skip
        replace h := cF (oR g2 g3) h
        refine Exists.intro none ?_
        replace h := Option.some.inj h
        subst h
        exact (And.intro rfl (And.intro rfl trivial))
    · skip
      replace h := cT (oL g2) h
      refine Exists.intro none ?_
      replace h := Option.some.inj h
      subst h
      exact (And.intro rfl (And.intro rfl trivial))

theorem c_sample_Needs (p0 : api_Sample) (p1 : Int) (p2 : (List Int)) (r : (Int × Bool)) (h : sample_Needs p0 p1 p2 = some r) : Contract Try.prog 46 [.agg [.lst 5 false (List.map enc_api_Chain p0.Chains)], .int .i64 p1, .lst 1 false (List.map (eI .i64) p2)] [] (.tup [.int .i64 r.1, .sb r.2]) [] := by
  refine contract_of_vcs tab_ok orders_ok Try.func46 Try.call46 (by kernel_rfl) 0 rfl rfl _ rfl ?_
  delta sample_Needs at h
  refine Exists.intro none ?_
  refine Exists.intro none ?_
  obtain ⟨y1_1, e1_1, h⟩ := bS h
  refine Exists.intro _ (Exists.intro _ (And.intro (Contract.wk (c_sample_Validate p0 y1_1 e1_1) (And.intro ff (And.intro rfl trivial))) (And.intro rfl ?_)))
  refine And.intro (fun g1 => ?_) (fun g1 => ?_)
  · skip
    replace h := cT g1 h
    refine Exists.intro none ?_
    replace h := Option.some.inj h
    subst h
    exact (And.intro rfl (And.intro rfl trivial))
  · skip
    replace h := cF g1 h
    refine Exists.intro none ?_
    refine Exists.intro none ?_
    refine Exists.intro [.int .i64 (p0.Chains.length : Int)] (And.intro (lenS enc_api_Chain p0.Chains) ?_)
    replace h : sample_Needs_l3 p0 p1 p2 (0:Int) (0:Int) = some r := h
    delta sample_Needs_l3 at h
    obtain ⟨n1, h⟩ := loopS h
    refine Exists.intro ⟨(Int × Int) × Nat, fun q => [(.tmp 1, .av (.int .i64 p1)), (.tmp 2, .av (.lst 1 false (List.map (eI .i64) p2))), (.tmp 8, .av (.int .i64 q.1.1)), (.tmp 20, .av (.lst 5 false (List.map enc_api_Chain p0.Chains))), (.tmp 21, .av (.int .i64 (p0.Chains.length : Int))), (.tmp 22, .av (.int .i64 q.1.2))], fun q => loopN (fun (s : (Int × Int)) => sample_Needs_l3s p0 p1 p2 s.1 s.2) q.2 q.1 = some r, fun q => q.2⟩ (And.intro (Exists.intro [] (Exists.intro [] (Exists.intro (((0:Int), (0:Int)), n1) (And.intro h (And.intro rfl (And.intro rfl (And.intro ff (And.intro rfl (And.intro rfl (And.intro ff (And.intro rfl (And.intro rfl (And.intro rfl trivial))))))))))))) ?_)
    clear h
    refine fun q h => ?_
    obtain ⟨⟨v3_8, v3_22⟩, n1⟩ := q
    obtain ⟨m1, x1, hm1, h, hl1, hr1⟩ := loopN_step h
    replace hm1 : n1 = m1 + 1 := hm1
    subst hm1
    replace h : sample_Needs_l3s p0 p1 p2 v3_8 v3_22 = some x1 := h
    delta sample_Needs_l3s at h
    refine Exists.intro none ?_
    refine And.intro (fun g2 => ?_) (fun g2 => ?_)
    · skip
      replace h := cT g2 h
      refine Exists.intro none ?_
      obtain ⟨x6_0, e6_0, h⟩ := bS h
      refine Exists.intro [.int .i64 x6_0.W, .int .i64 x6_0.Cap, .int .i64 x6_0.I, .int .i64 x6_0.Next, .lst 2 false (List.map enc_api_Link x6_0.Links)] (And.intro (idx_map enc_api_Chain e6_0) ?_)
      refine Exists.intro none ?_
      obtain ⟨y7_4, e7_4, h⟩ := bS h
      refine Exists.intro _ (Exists.intro _ (And.intro (Contract.wk (c_chain_Needs x6_0 p1 p2 v3_8 y7_4 e7_4) (And.intro rfl (And.intro rfl (And.intro rfl (And.intro rfl (And.intro ff (And.intro rfl (And.intro rfl (And.intro ff (And.intro rfl (And.intro rfl trivial))))))))))) (And.intro rfl ?_)))
      refine Exists.intro none ?_
      refine And.intro (fun g3 => ?_) (fun g3 => ?_)
      · skip
        replace h := cT g3 h
        refine Exists.intro none ?_
        replace h := retS h hr1
        subst h
        exact (And.intro rfl (And.intro rfl trivial))
      · skip
        replace h := cF g3 h
        refine Exists.intro none ?_
        obtain ⟨y10_4, e10_4, h⟩ := bS h
        refine Exists.intro _ (Exists.intro _ (And.intro (Contract.wk (c_chain_Add x6_0 p1 p2 v3_8 y10_4 e10_4) (And.intro rfl (And.intro rfl (And.intro rfl (And.intro rfl (And.intro ff (And.intro rfl (And.intro rfl (And.intro ff (And.intro rfl (And.intro rfl trivial))))))))))) (And.intro rfl ?_)))
        refine Exists.intro none ?_
        refine And.intro (fun g4 => ?_) (fun g4 => ?_)
        · skip
          replace h := cT g4 h
          refine Exists.intro none ?_
          replace h := retS h hr1
          subst h
          exact (And.intro rfl (And.intro rfl trivial))
        · skip
          replace h := cF g4 h
          refine Exists.intro none ?_
          refine Exists.intro none ?_
          exact Exists.intro [] (Exists.intro [] (Exists.intro ((y10_4.2.1, (w64 (v3_22 + (1:Int)))), m1) (And.intro (hl1 (y10_4.2.1, (w64 (v3_22 + (1:Int)))) (Option.some.inj h).symm) (And.intro (Nat.lt_succ_self m1) (And.intro rfl (And.intro rfl (And.intro ff (And.intro rfl (And.intro rfl (And.intro ff (And.intro rfl (And.intro rfl (And.intro rfl trivial)))))))))))))
    · skip
      replace h := cF g2 h
      replace h := popS h hr1
      refine Exists.intro none ?_
      replace h := Option.some.inj h
      subst h
      exact (And.intro rfl (And.intro rfl trivial))

theorem c_made_Mod (p0 : Int) (p1 : Int) (r : Int) (h : made_Mod p0 p1 = some r) : Contract Try.prog 49 [.int .i64 p0, .int .i64 p1] [] (.int .i64 r) [] := by
  refine contract_of_vcs tab_ok orders_ok Try.func49 Try.call49 (by kernel_rfl) 0 rfl rfl _ rfl ?_
  delta made_Mod at h
  refine Exists.intro none ?_
  refine Exists.intro none ?_
  obtain ⟨k1_2, h⟩ := ckS h
  refine And.intro (of_decide_eq_true k1_2) ?_
  refine Exists.intro none ?_
  refine And.intro (fun g1 => ?_) (fun g1 => ?_)
  · skip
    replace h := cT g1 h
    refine Exists.intro none ?_
    replace h := Option.some.inj h
    subst h
    exact (And.intro rfl trivial)
  · skip
    replace h := cF g1 h
    refine Exists.intro none ?_
    replace h := Option.some.inj h
    subst h
    exact (And.intro rfl trivial)

theorem c_made_Int (p0 : Int) (p1 : Int) (r : Int) (h : made_Int p0 p1 = some r) : Contract Try.prog 48 [.int .i64 p0, .int .i64 p1] [] (.int .i64 r) [] := by
  refine contract_of_vcs tab_ok orders_ok Try.func48 Try.call48 (by kernel_rfl) 0 rfl rfl _ rfl ?_
  delta made_Int at h
  refine Exists.intro none ?_
  refine Exists.intro none ?_
  obtain ⟨y1_2, e1_2, h⟩ := bS h
  refine Exists.intro _ (Exists.intro _ (And.intro (Contract.wk (c_made_Mod p0 p1 y1_2 e1_2) (And.intro rfl (And.intro rfl trivial))) (And.intro rfl ?_)))
  replace h := Option.some.inj h
  subst h
  exact (And.intro rfl trivial)

theorem c_made_New' (p0 : (List Int)) (r : made_Tape) (h : made_New p0 = r) : Contract Try.prog 51 [.lst 1 false (List.map (eI .i64) p0)] [] (.ptr 0 0) [[.lst 1 false (List.map (eI .i64) r.L), .int .i64 r.At]] := by
  refine contract_of_vcs tab_ok orders_ok Try.func51 Try.call51 (by kernel_rfl) 0 rfl rfl _ rfl ?_
  delta made_New at h
  refine Exists.intro none ?_
  refine Exists.intro none ?_
  subst h
  exact (And.intro ff (And.intro rfl (And.intro rfl trivial)))
theorem c_made_New (p0 : (List Int)) : Contract Try.prog 51 [.lst 1 false (List.map (eI .i64) p0)] [] (.ptr 0 0) [[.lst 1 false (List.map (eI .i64) (made_New p0).L), .int .i64 (made_New p0).At]] := c_made_New' p0 (made_New p0) rfl

theorem c_made_Value (p0 : Int) (r : Int) (h : made_Value p0 = some r) : Contract Try.prog 52 [.int .i64 p0] [] (.int .i64 r) [] := by
  refine contract_of_vcs tab_ok orders_ok Try.func52 Try.call52 (by kernel_rfl) 0 rfl rfl _ rfl ?_
  delta made_Value at h
  refine Exists.intro none ?_
  refine Exists.intro none ?_
  refine And.intro (by decide) ?_
  refine Exists.intro none ?_
  obtain ⟨y2_1, e2_1, h⟩ := bS h
  refine Exists.intro _ (Exists.intro _ (And.intro (Contract.wk (c_made_Mod p0 (8:Int) y2_1 e2_1) (And.intro rfl (And.intro rfl trivial))) (And.intro rfl ?_)))
  refine Exists.intro none ?_
  refine And.intro (fun g1 => ?_) (fun g1 => ?_)
  · skip
    replace h := cT g1 h
    refine Exists.intro none ?_
    obtain ⟨y4_1, e4_1, h⟩ := bS h
    refine Exists.intro _ (Exists.intro _ (And.intro (Contract.wk (c_made_Mod (w64 (Int.tdiv p0 (8:Int))) (8193:Int) y4_1 e4_1) (And.intro rfl (And.intro rfl trivial))) (And.intro rfl ?_)))
    replace h := Option.some.inj h
    subst h
    exact (And.intro rfl trivial)
  · skip
    replace h := cF g1 h
    refine Exists.intro none ?_
    refine And.intro (fun g2 => ?_) (fun g2 => ?_)
    · skip
      replace h := cT g2 h
      refine Exists.intro none ?_
      obtain ⟨y6_1, e6_1, h⟩ := bS h
      refine Exists.intro _ (Exists.intro _ (And.intro (Contract.wk (c_made_Mod (w64 (Int.tdiv p0 (8:Int))) (2:Int) y6_1 e6_1) (And.intro rfl (And.intro rfl trivial))) (And.intro rfl ?_)))
      replace h := Option.some.inj h
      subst h
      exact (And.intro rfl trivial)
    · skip
      replace h := cF g2 h
      refine Exists.intro none ?_
      obtain ⟨y7_1, e7_1, h⟩ := bS h
      refine Exists.intro _ (Exists.intro _ (And.intro (Contract.wk (c_made_Mod (w64 (Int.tdiv p0 (8:Int))) (13:Int) y7_1 e7_1) (And.intro rfl (And.intro rfl trivial))) (And.intro rfl ?_)))
      replace h := Option.some.inj h
      subst h
      exact (And.intro rfl trivial)

theorem c_made_Tape_Next (p0 : made_Tape) (p1 : Int) (r : (Int × made_Tape)) (h : made_Tape_Next p0 p1 = some r) : Contract Try.prog 53 [.ptr 0 0, .int .i64 p1] [[.lst 1 false (List.map (eI .i64) p0.L), .int .i64 p0.At]] (.int .i64 r.1) [[.lst 1 false (List.map (eI .i64) r.2.L), .int .i64 r.2.At]] := by
  refine contract_of_vcs tab_ok orders_ok Try.func53 Try.call53 (by kernel_rfl) 1 rfl rfl _ rfl ?_
  delta made_Tape_Next at h
  refine Exists.intro none ?_
  refine Exists.intro none ?_
  refine Exists.intro [.int .i64 (p0.L.length : Int)] (And.intro (lenS (eI .i64) p0.L) ?_)
  refine And.intro (fun g1 => ?_) (fun g1 => ?_)
  · skip
    replace h := cT g1 h
    refine Exists.intro none ?_
    replace h := Option.some.inj h
    subst h
    exact (And.intro rfl (And.intro ff (And.intro rfl (And.intro rfl trivial))))
  · skip
    replace h := cF g1 h
    refine Exists.intro none ?_
    refine Exists.intro none ?_
    obtain ⟨x4_9, e4_9, h⟩ := bS h
    obtain ⟨y4_12, e4_12, h⟩ := bS h
    refine Exists.intro [.int .i64 x4_9] (And.intro (idx_map (eI .i64) e4_9) ?_)
    refine Exists.intro _ (Exists.intro _ (And.intro (Contract.wk (c_made_Mod x4_9 p1 y4_12 e4_12) (And.intro rfl (And.intro rfl trivial))) (And.intro rfl ?_)))
    replace h := Option.some.inj h
    subst h
    exact (And.intro rfl (And.intro ff (And.intro rfl (And.intro rfl trivial))))

theorem c_law19_SampleChains (p0 : (List Int)) (p1 : (List Int)) (p2 : Int) (p3 : Int) (r : Bool) (h : law19_SampleChains p0 p1 p2 p3 = some r) : Contract Try.prog 11 [.lst 1 false (List.map (eI .i64) p0), .lst 1 false (List.map (eI .i64) p1), .int .i64 p2, .int .i64 p3] [] (.sb r) [] := by
  refine contract_of_vcs tab_ok orders_ok Try.func11 Try.call11 (by kernel_rfl) 0 rfl rfl _ rfl ?_
  delta law19_SampleChains at h
  refine Exists.intro none ?_
  refine Exists.intro none ?_
  obtain ⟨y1_1, e1_1, h⟩ := bS h
  obtain ⟨y1_4, e1_4, h⟩ := bS h
  refine Exists.intro _ (Exists.intro _ (And.intro (Contract.wk (c_made_Int p2 (4:Int) y1_1 e1_1) (And.intro rfl (And.intro rfl trivial))) (And.intro rfl ?_)))
  refine Exists.intro _ (Exists.intro _ (And.intro (Contract.wk (c_made_Mod p3 (6:Int) y1_4 e1_4) (And.intro rfl (And.intro rfl trivial))) (And.intro rfl ?_)))
  refine Exists.intro none ?_
  obtain ⟨y2_2, e2_2, h⟩ := bS h
  refine Exists.intro _ (Exists.intro _ (And.intro (Contract.wk (c_sample_New (w64 ((1:Int) + y1_1)) (w64 ((1:Int) + y1_4)) (64:Int) y2_2 e2_2) (And.intro rfl (And.intro rfl (And.intro rfl trivial)))) (And.intro rfl ?_)))
  refine Exists.intro none ?_
  refine Exists.intro none ?_
  replace h : law19_SampleChains_l2 p0 p1 y1_1 y1_4 y2_2 ([] : List api_Chain) (0:Int) = some r := h
  delta law19_SampleChains_l2 at h
  obtain ⟨n1, h⟩ := loopS h
  refine Exists.intro ⟨((List api_Chain) × Int) × Nat, fun q => [(.tmp 0, .av (.lst 1 false (List.map (eI .i64) p0))), (.tmp 1, .av (.lst 1 false (List.map (eI .i64) p1))), (.tmp 2, .av (.int .i64 (w64 ((1:Int) + y1_1)))), (.tmp 3, .av (.int .i64 (w64 ((1:Int) + y1_4)))), (.tmp 9, .av (.ptr 518 0)), (.tmp 10, .av (.int .i64 y2_2.2)), (.tmp 11, .av (.own 1279)), (.tmp 12, .av (.int .i64 q.1.2)), (.box 518, .box [.lst 5 false (List.map enc_api_Chain y2_2.1.Chains)]), (.tok 1279, .tok 78 5 (List.map enc_api_Chain q.1.1))], fun q => loopN (fun (s : ((List api_Chain) × Int)) => law19_SampleChains_l2s p0 p1 y1_1 y1_4 y2_2 s.1 s.2) q.2 q.1 = some r, fun q => q.2⟩ (And.intro (Exists.intro [(1279, none)] (Exists.intro [] (Exists.intro ((([] : List api_Chain), (0:Int)), n1) (And.intro h (And.intro rfl (And.intro ff (And.intro rfl (And.intro ff (And.intro rfl (And.intro rfl (And.intro rfl (And.intro rfl (And.intro rfl (And.intro ff (And.intro rfl (And.intro rfl trivial)))))))))))))))) ?_)
  clear h
  refine fun q h => ?_
  obtain ⟨⟨v2_11, v2_12⟩, n1⟩ := q
  obtain ⟨m1, x1, hm1, h, hl1, hr1⟩ := loopN_step h
  replace hm1 : n1 = m1 + 1 := hm1
  subst hm1
  replace h : law19_SampleChains_l2s p0 p1 y1_1 y1_4 y2_2 v2_11 v2_12 = some x1 := h
  delta law19_SampleChains_l2s at h
  refine Exists.intro none ?_
  refine And.intro (fun g1 => ?_) (fun g1 => ?_)
  · skip
    replace h := cT g1 h
    refine Exists.intro none ?_
    refine Exists.intro _ (Exists.intro _ (And.intro (Contract.wk (c_ref18_New (w64 ((1:Int) + y1_4)) (64:Int)) (And.intro rfl (And.intro rfl trivial))) (And.intro rfl ?_)))
    refine Exists.intro none ?_
    refine And.intro (fun g2 => ?_) (fun g2 => ?_)
    · skip
      replace h := cT g2 h
      refine Exists.intro none ?_
      replace h := retS h hr1
      subst h
      exact (And.intro rfl trivial)
    · skip
      replace h := cF g2 h
      refine Exists.intro none ?_
      obtain ⟨k10_3, h⟩ := ckS h
      refine And.intro (by have hh := (of_decide_eq_true k10_3); (try simp only [fixRows_length, List.length_map, List.length_append, List.length_take, List.length_drop, List.length_set, List.length_replicate, List.length_cons, List.length_nil] at hh); (try simp only [fixRows_length, List.length_map, List.length_append, List.length_take, List.length_drop, List.length_set, List.length_replicate, List.length_cons, List.length_nil]); omega) ?_
      refine Exists.intro none ?_
      exact Exists.intro [(1279, some 2051)] (Exists.intro [] (Exists.intro (((v2_11 ++ [(ref18_New (w64 ((1:Int) + y1_4)) (64:Int)).1]), (w64 (v2_12 + (1:Int)))), m1) (And.intro (hl1 ((v2_11 ++ [(ref18_New (w64 ((1:Int) + y1_4)) (64:Int)).1]), (w64 (v2_12 + (1:Int)))) (Option.some.inj h).symm) (And.intro (Nat.lt_succ_self m1) (And.intro rfl (And.intro ff (And.intro rfl (And.intro ff (And.intro rfl (And.intro rfl (And.intro rfl (And.intro rfl (And.intro rfl (And.intro ff (And.intro rfl (And.intro (by first | rfl | (simp only [List.map_append, List.map_cons, List.map_nil, List.map_take, List.map_drop, List.map_set, List.map_replicate]; done) | (simp only [List.map_append, List.map_cons, List.map_nil, List.map_take, List.map_drop, List.map_set, List.map_replicate]; rfl) | (simp only [List.map_append, List.map_cons, List.map_nil, List.map_take, List.map_drop, List.map_set, List.map_replicate, eL, enc_api_Command, enc_tape_Tape, enc_ref27_Cursor, enc_api_Chain, enc_api_Sample, enc_chain_source, enc_made_Tape, enc_api_Answer, enc_api_Reply]; done) | (simp only [List.map_append, List.map_cons, List.map_nil, List.map_take, List.map_drop, List.map_set, List.map_replicate, eL, enc_api_Command, enc_tape_Tape, enc_ref27_Cursor, enc_api_Chain, enc_api_Sample, enc_chain_source, enc_made_Tape, enc_api_Answer, enc_api_Reply]; rfl)) trivial))))))))))))))))
  · skip
    replace h := cF g1 h
    replace h := popS h hr1
    refine Exists.intro none ?_
    refine Exists.intro _ (Exists.intro _ (And.intro (Contract.wk (c_made_New p1) (And.intro ff (And.intro rfl trivial))) (And.intro rfl ?_)))
    refine Exists.intro none ?_
    replace h : law19_SampleChains_l7 p0 y2_2.2 v2_11 (0:Int) y2_2.1.Chains (made_New p1).L (made_New p1).At = some r := h
    delta law19_SampleChains_l7 at h
    obtain ⟨n1, h⟩ := loopS h
    refine Exists.intro ⟨(Int × (List api_Chain) × Int × (List api_Chain) × (List Int) × Int) × Nat, fun q => [(.tmp 0, .av (.lst 1 false (List.map (eI .i64) p0))), (.tmp 9, .av (.ptr 518 0)), (.tmp 10, .av (.int .i64 q.1.1)), (.tmp 11, .av (.own 1279)), (.tmp 15, .av (.ptr 1537 0)), (.tmp 16, .av (.int .i64 q.1.2.2.1)), (.box 518, .box [.lst 5 false (List.map enc_api_Chain q.1.2.2.2.1)]), (.box 1537, .box [.lst 1 false (List.map (eI .i64) q.1.2.2.2.2.1), .int .i64 q.1.2.2.2.2.2]), (.tok 1279, .tok 78 5 (List.map enc_api_Chain q.1.2.1))], fun q => loopN (fun (s : (Int × (List api_Chain) × Int × (List api_Chain) × (List Int) × Int)) => law19_SampleChains_l7s p0 s.1 s.2.1 s.2.2.1 s.2.2.2.1 s.2.2.2.2.1 s.2.2.2.2.2) q.2 q.1 = some r, fun q => q.2⟩ (And.intro (Exists.intro [] (Exists.intro [] (Exists.intro ((y2_2.2, v2_11, (0:Int), y2_2.1.Chains, (made_New p1).L, (made_New p1).At), n1) (And.intro h (And.intro rfl (And.intro ff (And.intro rfl (And.intro rfl (And.intro rfl (And.intro ff (And.intro rfl (And.intro ff (And.intro rfl (And.intro rfl (And.intro rfl trivial))))))))))))))) ?_)
    clear h
    refine fun q h => ?_
    obtain ⟨⟨v7_10, v7_11, v7_16, v7_b2x6_0, v7_b11x1_0, v7_b11x1_1⟩, n1⟩ := q
    obtain ⟨m1, x1, hm1, h, hl1, hr1⟩ := loopN_step h
    replace hm1 : n1 = m1 + 1 := hm1
    subst hm1
    replace h : law19_SampleChains_l7s p0 v7_10 v7_11 v7_16 v7_b2x6_0 v7_b11x1_0 v7_b11x1_1 = some x1 := h
    delta law19_SampleChains_l7s at h
    refine Exists.intro none ?_
    refine Exists.intro (some (⟨Unit, fun _ => [(.tmp 0, .av (.lst 1 false (List.map (eI .i64) p0))), (.tmp 9, .av (.ptr 518 0)), (.tmp 10, .av (.int .i64 v7_10)), (.tmp 11, .av (.own 1279)), (.tmp 15, .av (.ptr 1537 0)), (.tmp 16, .av (.int .i64 v7_16)), (.tmp 63, .av (.sb ((decide (v7_16 < (p0.length : Int))) && (decide (v7_16 < (20:Int)))))), (.box 518, .box [.lst 5 false (List.map enc_api_Chain v7_b2x6_0)]), (.box 1537, .box [.lst 1 false (List.map (eI .i64) v7_b11x1_0), .int .i64 v7_b11x1_1]), (.tok 1279, .tok 78 5 (List.map enc_api_Chain v7_11))], fun _ => True, fun _ => 0⟩, 1000000)) (And.intro ?_ (fun _ _ => ?_))
    · skip
      refine Exists.intro [.int .i64 (p0.length : Int)] (And.intro (lenS (eI .i64) p0) ?_)
      refine And.intro (fun g3 => ?_) (fun g3 => ?_)
      · skip
        exact Exists.intro [] (Exists.intro [] (Exists.intro () (And.intro trivial (And.intro rfl (And.intro ff (And.intro rfl (And.intro rfl (And.intro rfl (And.intro (Eq.symm (aR g3 rfl)) (And.intro ff (And.intro rfl (And.intro ff (And.intro rfl (And.intro rfl (And.intro rfl trivial)))))))))))))))
      · skip
        exact Exists.intro [] (Exists.intro [] (Exists.intro () (And.intro trivial (And.intro rfl (And.intro ff (And.intro rfl (And.intro rfl (And.intro rfl (And.intro (Eq.symm (aL g3)) (And.intro ff (And.intro rfl (And.intro ff (And.intro rfl (And.intro rfl (And.intro rfl trivial)))))))))))))))
    · skip
      refine And.intro (fun g4 => ?_) (fun g4 => ?_)
      · skip
        replace h := cT g4 h
        refine Exists.intro none ?_
        refine Exists.intro none ?_
        obtain ⟨x15_2, e15_2, h⟩ := bS h
        obtain ⟨y15_4, e15_4, h⟩ := bS h
        refine Exists.intro [.int .i64 x15_2] (And.intro (idx_map (eI .i64) e15_2) ?_)
        refine Exists.intro _ (Exists.intro _ (And.intro (Contract.wk (c_made_Value x15_2 y15_4 e15_4) (And.intro rfl trivial)) (And.intro rfl ?_)))
        refine Exists.intro none ?_
        refine Exists.intro (some (⟨(List Int) × (List Int) × Int, fun q => [(.tmp 0, .av (.lst 1 false (List.map (eI .i64) p0))), (.tmp 9, .av (.ptr 518 0)), (.tmp 11, .av (.own 1279)), (.tmp 15, .av (.ptr 1537 0)), (.tmp 16, .av (.int .i64 v7_16)), (.tmp 17, .av (.int .i64 y15_4)), (.tmp 18, .av (.own 1999999)), (.box 518, .box [.lst 5 false (List.map enc_api_Chain v7_b2x6_0)]), (.box 1537, .box [.lst 1 false (List.map (eI .i64) q.2.1), .int .i64 q.2.2]), (.tok 1279, .tok 78 5 (List.map enc_api_Chain v7_11)), (.tok 1999999, .tok 2 1 (List.map (eI .i64) q.1))], fun q => law19_SampleChains_j10 y15_4 v7_11 v7_16 v7_b2x6_0 q.1 q.2.1 q.2.2 = some x1, fun _ => 0⟩, 2000000)) (And.intro ?_ ?_)
        · skip
          replace h : law19_SampleChains_l11 y15_4 v7_11 v7_16 v7_b2x6_0 ([] : List Int) v7_b11x1_0 v7_b11x1_1 = some x1 := h
          delta law19_SampleChains_l11 at h
          obtain ⟨n2, h⟩ := loopS h
          refine Exists.intro ⟨((List Int) × (List Int) × Int) × Nat, fun q => [(.tmp 0, .av (.lst 1 false (List.map (eI .i64) p0))), (.tmp 9, .av (.ptr 518 0)), (.tmp 11, .av (.own 1279)), (.tmp 15, .av (.ptr 1537 0)), (.tmp 16, .av (.int .i64 v7_16)), (.tmp 17, .av (.int .i64 y15_4)), (.tmp 18, .av (.own 1000511)), (.box 518, .box [.lst 5 false (List.map enc_api_Chain v7_b2x6_0)]), (.box 1537, .box [.lst 1 false (List.map (eI .i64) q.1.2.1), .int .i64 q.1.2.2]), (.tok 1279, .tok 78 5 (List.map enc_api_Chain v7_11)), (.tok 1000511, .tok 2 1 (List.map (eI .i64) q.1.1))], fun q => loopN (fun (s : ((List Int) × (List Int) × Int)) => law19_SampleChains_l11s y15_4 v7_11 v7_16 v7_b2x6_0 s.1 s.2.1 s.2.2) q.2 q.1 = some x1, fun q => q.2⟩ (And.intro (Exists.intro [(1000511, none)] (Exists.intro [] (Exists.intro ((([] : List Int), v7_b11x1_0, v7_b11x1_1), n2) (And.intro h (And.intro rfl (And.intro ff (And.intro rfl (And.intro rfl (And.intro rfl (And.intro ff (And.intro rfl (And.intro ff (And.intro rfl (And.intro rfl (And.intro rfl (And.intro rfl trivial)))))))))))))))) ?_)
          clear h
          refine fun q h => ?_
          obtain ⟨⟨v11_18, v11_b11x1_0, v11_b11x1_1⟩, n2⟩ := q
          obtain ⟨m2, x2, hm2, h, hl2, hr2⟩ := loopN_step h
          replace hm2 : n2 = m2 + 1 := hm2
          subst hm2
          replace h : law19_SampleChains_l11s y15_4 v7_11 v7_16 v7_b2x6_0 v11_18 v11_b11x1_0 v11_b11x1_1 = some x2 := h
          delta law19_SampleChains_l11s at h
          refine Exists.intro none ?_
          refine Exists.intro [.int .i64 (v11_18.length : Int)] (And.intro (lenS (eI .i64) v11_18) ?_)
          refine And.intro (fun g5 => ?_) (fun g5 => ?_)
          · skip
            replace h := cT g5 h
            refine Exists.intro none ?_
            obtain ⟨y18_3, e18_3, h⟩ := bS h
            refine Exists.intro _ (Exists.intro _ (And.intro (Contract.wk (c_sample_Needs (api_Sample.mk v7_b2x6_0) y15_4 v11_18 y18_3 e18_3) (And.intro ff (And.intro rfl (And.intro rfl (And.intro ff (And.intro rfl trivial)))))) (And.intro rfl ?_)))
            refine Exists.intro none ?_
            refine Exists.intro (some (⟨Unit, fun _ => [(.tmp 0, .av (.lst 1 false (List.map (eI .i64) p0))), (.tmp 9, .av (.ptr 518 0)), (.tmp 11, .av (.own 1279)), (.tmp 15, .av (.ptr 1537 0)), (.tmp 16, .av (.int .i64 v7_16)), (.tmp 17, .av (.int .i64 y15_4)), (.tmp 18, .av (.own 1000511)), (.tmp 19, .av (.int .i64 y18_3.1)), (.tmp 86, .av (.sb ((!y18_3.2) || (decide (y18_3.1 < (1:Int)))))), (.box 518, .box [.lst 5 false (List.map enc_api_Chain v7_b2x6_0)]), (.box 1537, .box [.lst 1 false (List.map (eI .i64) v11_b11x1_0), .int .i64 v11_b11x1_1]), (.tok 1279, .tok 78 5 (List.map enc_api_Chain v7_11)), (.tok 1000511, .tok 2 1 (List.map (eI .i64) v11_18))], fun _ => True, fun _ => 0⟩, 2000000)) (And.intro ?_ (fun _ _ => ?_))
            · skip
              refine And.intro (fun g6 => ?_) (fun g6 => ?_)
              · skip
                exact Exists.intro [] (Exists.intro [] (Exists.intro () (And.intro trivial (And.intro rfl (And.intro ff (And.intro rfl (And.intro rfl (And.intro rfl (And.intro rfl (And.intro (Eq.symm (oR g6 rfl)) (And.intro ff (And.intro rfl (And.intro ff (And.intro rfl (And.intro rfl (And.intro rfl (And.intro rfl trivial)))))))))))))))))
              · skip
                exact Exists.intro [] (Exists.intro [] (Exists.intro () (And.intro trivial (And.intro rfl (And.intro ff (And.intro rfl (And.intro rfl (And.intro rfl (And.intro rfl (And.intro (Eq.symm (oL g6)) (And.intro ff (And.intro rfl (And.intro ff (And.intro rfl (And.intro rfl (And.intro rfl (And.intro rfl trivial)))))))))))))))))
            · skip
              refine And.intro (fun g7 => ?_) (fun g7 => ?_)
              · skip
                replace h := cT g7 h
                replace h := popS h hr2
                exact Exists.intro [(1999999, some 1000511)] (Exists.intro [] (Exists.intro (v11_18, v11_b11x1_0, v11_b11x1_1) (And.intro h (And.intro rfl (And.intro ff (And.intro rfl (And.intro rfl (And.intro rfl (And.intro ff (And.intro rfl (And.intro ff (And.intro rfl (And.intro rfl (And.intro rfl (And.intro rfl trivial)))))))))))))))
              · skip
                replace h := cF g7 h
                refine Exists.intro none ?_
                obtain ⟨y20_3, e20_3, h⟩ := bS h
                obtain ⟨k20_5, h⟩ := ckS h
                refine Exists.intro _ (Exists.intro _ (And.intro (Contract.wk (c_made_Tape_Next (made_Tape.mk v11_b11x1_0 v11_b11x1_1) y18_3.1 y20_3 e20_3) (And.intro rfl (And.intro ff (And.intro rfl (And.intro rfl trivial))))) (And.intro rfl ?_)))
                refine And.intro (by have hh := (of_decide_eq_true k20_5); (try simp only [fixRows_length, List.length_map, List.length_append, List.length_take, List.length_drop, List.length_set, List.length_replicate, List.length_cons, List.length_nil] at hh); (try simp only [fixRows_length, List.length_map, List.length_append, List.length_take, List.length_drop, List.length_set, List.length_replicate, List.length_cons, List.length_nil]); omega) ?_
                exact Exists.intro [(1000511, some 2000005)] (Exists.intro [] (Exists.intro (((v11_18 ++ [y20_3.1]), y20_3.2.L, y20_3.2.At), m2) (And.intro (hl2 ((v11_18 ++ [y20_3.1]), y20_3.2.L, y20_3.2.At) (Option.some.inj h).symm) (And.intro (Nat.lt_succ_self m2) (And.intro rfl (And.intro ff (And.intro rfl (And.intro rfl (And.intro rfl (And.intro ff (And.intro rfl (And.intro ff (And.intro rfl (And.intro rfl (And.intro rfl (And.intro (by first | rfl | (simp only [List.map_append, List.map_cons, List.map_nil, List.map_take, List.map_drop, List.map_set, List.map_replicate]; done) | (simp only [List.map_append, List.map_cons, List.map_nil, List.map_take, List.map_drop, List.map_set, List.map_replicate]; rfl) | (simp only [List.map_append, List.map_cons, List.map_nil, List.map_take, List.map_drop, List.map_set, List.map_replicate, eL, enc_api_Command, enc_tape_Tape, enc_ref27_Cursor, enc_api_Chain, enc_api_Sample, enc_chain_source, enc_made_Tape, enc_api_Answer, enc_api_Reply]; done) | (simp only [List.map_append, List.map_cons, List.map_nil, List.map_take, List.map_drop, List.map_set, List.map_replicate, eL, enc_api_Command, enc_tape_Tape, enc_ref27_Cursor, enc_api_Chain, enc_api_Sample, enc_chain_source, enc_made_Tape, enc_api_Answer, enc_api_Reply]; rfl)) trivial))))))))))))))))
          · skip
            replace h := cF g5 h
            replace h := popS h hr2
            exact Exists.intro [(1999999, some 1000511)] (Exists.intro [] (Exists.intro (v11_18, v11_b11x1_0, v11_b11x1_1) (And.intro h (And.intro rfl (And.intro ff (And.intro rfl (And.intro rfl (And.intro rfl (And.intro ff (And.intro rfl (And.intro ff (And.intro rfl (And.intro rfl (And.intro rfl (And.intro rfl trivial)))))))))))))))
        · skip
          clear h
          refine fun q h => ?_
          obtain ⟨j10_18, j10_b11x1_0, j10_b11x1_1⟩ := q
          replace h : law19_SampleChains_j10 y15_4 v7_11 v7_16 v7_b2x6_0 j10_18 j10_b11x1_0 j10_b11x1_1 = some x1 := h
          delta law19_SampleChains_j10 at h
          refine Exists.intro (some ([1999999], [(.tmp 0, .av (.lst 1 false (List.map (eI .i64) p0))), (.tmp 9, .av (.ptr 518 0)), (.tmp 11, .av (.own 1279)), (.tmp 15, .av (.ptr 1537 0)), (.tmp 16, .av (.int .i64 v7_16)), (.tmp 17, .av (.int .i64 y15_4)), (.tmp 18, .av (.lst 1 false (List.map (eI .i64) j10_18))), (.box 518, .box [.lst 5 false (List.map enc_api_Chain v7_b2x6_0)]), (.box 1537, .box [.lst 1 false (List.map (eI .i64) j10_b11x1_0), .int .i64 j10_b11x1_1]), (.tok 1279, .tok 78 5 (List.map enc_api_Chain v7_11))], 3000000)) (And.intro (And.intro rfl (And.intro ff (And.intro rfl (And.intro rfl (And.intro rfl (And.intro ff (And.intro rfl (And.intro ff (And.intro rfl (And.intro ff (And.intro rfl (And.intro rfl (And.intro rfl trivial))))))))))))) ?_)
          obtain ⟨y21_3, e21_3, h⟩ := bS h
          refine Exists.intro _ (Exists.intro _ (And.intro (Contract.wk (c_sample_Add (api_Sample.mk v7_b2x6_0) y15_4 j10_18 y21_3 e21_3) (And.intro ff (And.intro rfl (And.intro rfl (And.intro ff (And.intro rfl trivial)))))) (And.intro rfl ?_)))
          refine Exists.intro none ?_
          refine And.intro (fun g8 => ?_) (fun g8 => ?_)
          · skip
            replace h := cT g8 h
            refine Exists.intro none ?_
            obtain ⟨y23_0, e23_0, h⟩ := bS h
            refine Exists.intro _ (Exists.intro _ (And.intro (Contract.wk (c_law19_awake y23_0 e23_0) trivial) (And.intro rfl ?_)))
            replace h := retS h hr1
            subst h
            exact (And.intro rfl trivial)
          · skip
            replace h := cF g8 h
            refine Exists.intro none ?_
            refine Exists.intro none ?_
            refine Exists.intro [.int .i64 (v7_11.length : Int)] (And.intro (lenS enc_api_Chain v7_11) ?_)
            replace h : law19_SampleChains_l17 y15_4 y21_3 v7_11 v7_16 j10_18 j10_b11x1_0 j10_b11x1_1 v7_11 (0:Int) (0:Int) = some x1 := h
            delta law19_SampleChains_l17 at h
            obtain ⟨n2, h⟩ := loopS h
            refine Exists.intro ⟨((List api_Chain) × Int × Int) × Nat, fun q => [(.tmp 0, .av (.lst 1 false (List.map (eI .i64) p0))), (.tmp 9, .av (.ptr 518 0)), (.tmp 10, .av (.int .i64 y21_3.2)), (.tmp 11, .av (.own 1279)), (.tmp 15, .av (.ptr 1537 0)), (.tmp 16, .av (.int .i64 v7_16)), (.tmp 17, .av (.int .i64 y15_4)), (.tmp 18, .av (.lst 1 false (List.map (eI .i64) j10_18))), (.tmp 21, .av (.int .i64 q.1.2.1)), (.tmp 104, .av (.int .i64 (v7_11.length : Int))), (.tmp 105, .av (.int .i64 q.1.2.2)), (.box 518, .box [.lst 5 false (List.map enc_api_Chain y21_3.1.Chains)]), (.box 1537, .box [.lst 1 false (List.map (eI .i64) j10_b11x1_0), .int .i64 j10_b11x1_1]), (.tok 1279, .tok 78 5 (List.map enc_api_Chain q.1.1))], fun q => loopN (fun (s : ((List api_Chain) × Int × Int)) => law19_SampleChains_l17s y15_4 y21_3 v7_11 v7_16 j10_18 j10_b11x1_0 j10_b11x1_1 s.1 s.2.1 s.2.2) q.2 q.1 = some x1, fun q => q.2⟩ (And.intro (Exists.intro [] (Exists.intro [] (Exists.intro ((v7_11, (0:Int), (0:Int)), n2) (And.intro h (And.intro rfl (And.intro ff (And.intro rfl (And.intro rfl (And.intro rfl (And.intro rfl (And.intro ff (And.intro rfl (And.intro rfl (And.intro rfl (And.intro rfl (And.intro ff (And.intro rfl (And.intro ff (And.intro rfl (And.intro rfl (And.intro rfl trivial))))))))))))))))))))) ?_)
            clear h
            refine fun q h => ?_
            obtain ⟨⟨v17_11, v17_21, v17_105⟩, n2⟩ := q
            obtain ⟨m2, x2, hm2, h, hl2, hr2⟩ := loopN_step h
            replace hm2 : n2 = m2 + 1 := hm2
            subst hm2
            replace h : law19_SampleChains_l17s y15_4 y21_3 v7_11 v7_16 j10_18 j10_b11x1_0 j10_b11x1_1 v17_11 v17_21 v17_105 = some x2 := h
            delta law19_SampleChains_l17s at h
            refine Exists.intro none ?_
            refine And.intro (fun g9 => ?_) (fun g9 => ?_)
            · skip
              replace h := cT g9 h
              refine Exists.intro none ?_
              refine Exists.intro none ?_
              obtain ⟨x28_2, e28_2, h⟩ := bS h
              obtain ⟨x28_3, e28_3, h⟩ := bS h
              obtain ⟨y28_7, e28_7, h⟩ := bS h
              refine And.intro (idx_lt enc_api_Chain e28_2) ?_
              refine Exists.intro [.int .i64 x28_3.W, .int .i64 x28_3.Cap, .int .i64 x28_3.I, .int .i64 x28_3.Next, .lst 2 false (List.map enc_api_Link x28_3.Links)] (And.intro (idx_elt enc_api_Chain e28_3) ?_)
              refine Exists.intro _ (Exists.intro _ (And.intro (Contract.wk (c_chain_Add x28_3 y15_4 j10_18 v17_21 y28_7 e28_7) (And.intro rfl (And.intro rfl (And.intro rfl (And.intro rfl (And.intro ff (And.intro rfl (And.intro rfl (And.intro ff (And.intro rfl (And.intro rfl trivial))))))))))) (And.intro rfl ?_)))
              refine Exists.intro none ?_
              refine And.intro (fun g10 => ?_) (fun g10 => ?_)
              · skip
                replace h := cT g10 h
                refine Exists.intro none ?_
                replace h := retS h hr2
                replace h := retT h hr1
                subst h
                exact (And.intro rfl trivial)
              · skip
                replace h := cF g10 h
                refine Exists.intro none ?_
                obtain ⟨x31_4, e31_4, h⟩ := bS h
                obtain ⟨x31_5, e31_5, h⟩ := bS h
                refine And.intro (idx_lt enc_api_Chain e31_4) ?_
                refine Exists.intro [.int .i64 x31_5.W, .int .i64 x31_5.Cap, .int .i64 x31_5.I, .int .i64 x31_5.Next, .lst 2 false (List.map enc_api_Link x31_5.Links)] (And.intro (idx_elt enc_api_Chain e31_5) ?_)
                refine Exists.intro none ?_
                exact Exists.intro [] (Exists.intro [] (Exists.intro (((v17_11.set (v17_105).toNat y28_7.1), y28_7.2.1, (w64 (v17_105 + (1:Int)))), m2) (And.intro (hl2 ((v17_11.set (v17_105).toNat y28_7.1), y28_7.2.1, (w64 (v17_105 + (1:Int)))) (Option.some.inj h).symm) (And.intro (Nat.lt_succ_self m2) (And.intro rfl (And.intro ff (And.intro rfl (And.intro rfl (And.intro rfl (And.intro rfl (And.intro ff (And.intro rfl (And.intro rfl (And.intro rfl (And.intro rfl (And.intro ff (And.intro rfl (And.intro ff (And.intro rfl (And.intro rfl (And.intro (by first | rfl | (simp only [List.map_append, List.map_cons, List.map_nil, List.map_take, List.map_drop, List.map_set, List.map_replicate]; done) | (simp only [List.map_append, List.map_cons, List.map_nil, List.map_take, List.map_drop, List.map_set, List.map_replicate]; rfl) | (simp only [List.map_append, List.map_cons, List.map_nil, List.map_take, List.map_drop, List.map_set, List.map_replicate, eL, enc_api_Command, enc_tape_Tape, enc_ref27_Cursor, enc_api_Chain, enc_api_Sample, enc_chain_source, enc_made_Tape, enc_api_Answer, enc_api_Reply]; done) | (simp only [List.map_append, List.map_cons, List.map_nil, List.map_take, List.map_drop, List.map_set, List.map_replicate, eL, enc_api_Command, enc_tape_Tape, enc_ref27_Cursor, enc_api_Chain, enc_api_Sample, enc_chain_source, enc_made_Tape, enc_api_Answer, enc_api_Reply]; rfl)) trivial)))))))))))))))))))))
            · skip
              replace h := cF g9 h
              replace h := popS h hr2
              refine Exists.intro none ?_
              obtain ⟨y33_12, e33_12, h⟩ := bS h
              refine Exists.intro none ?_
              refine And.intro (fun g11 => ?_) (fun g11 => ?_)
              · skip
                refine Exists.intro [.int .i64 (j10_18.length : Int)] (And.intro (lenS (eI .i64) j10_18) ?_)
                refine And.intro (fun g12 => ?_) (fun g12 => ?_)
                · skip
                  refine Exists.intro _ (Exists.intro _ (And.intro (Contract.wk (c_ref19_Same y21_3.1 (api_Sample.mk v17_11) y33_12 (gdT (nE (oR g11 g12)) e33_12)) (And.intro ff (And.intro rfl (And.intro ff (And.intro rfl trivial))))) (And.intro rfl ?_)))
                  refine And.intro (fun g13 => ?_) (fun g13 => ?_)
                  · skip
                    replace h := cT (oR (oR g11 g12) g13) h
                    refine Exists.intro none ?_
                    replace h := retS h hr1
                    subst h
                    exact (And.intro rfl trivial)
                  · skip
                    replace h := cF (oR (oR g11 g12) g13) h
                    refine Exists.intro none ?_
                    exact Exists.intro [] (Exists.intro [] (Exists.intro ((y21_3.2, v17_11, (w64 (v7_16 + (1:Int))), y21_3.1.Chains, j10_b11x1_0, j10_b11x1_1), m1) (And.intro (hl1 (y21_3.2, v17_11, (w64 (v7_16 + (1:Int))), y21_3.1.Chains, j10_b11x1_0, j10_b11x1_1) (Option.some.inj h).symm) (And.intro (Nat.lt_succ_self m1) (And.intro rfl (And.intro ff (And.intro rfl (And.intro rfl (And.intro rfl (And.intro ff (And.intro rfl (And.intro ff (And.intro rfl (And.intro rfl (And.intro rfl trivial)))))))))))))))
                · skip
                  replace h := cT (oL (oR g11 g12)) h
                  refine Exists.intro none ?_
                  replace h := retS h hr1
                  subst h
                  exact (And.intro rfl trivial)
              · skip
                replace h := cT (oL (oL g11)) h
                refine Exists.intro none ?_
                replace h := retS h hr1
                subst h
                exact (And.intro rfl trivial)
      · skip
        replace h := cF g4 h
        replace h := popS h hr1
        refine Exists.intro none ?_
        obtain ⟨y35_3, e35_3, h⟩ := bS h
        refine Exists.intro none ?_
        refine And.intro (fun g14 => ?_) (fun g14 => ?_)
        · skip
          refine Exists.intro _ (Exists.intro _ (And.intro (Contract.wk (c_law19_awake y35_3 (gdT g14 e35_3)) trivial) (And.intro rfl ?_)))
          replace h := Option.some.inj h
          subst h
          exact (And.intro (Eq.symm (aR g14 rfl)) trivial)
        · skip
          replace h := Option.some.inj h
          subst h
          exact (And.intro (Eq.symm (aL g14)) trivial)

end Go.Proofs.Ytbolhhoklijnpaa
