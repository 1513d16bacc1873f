/- The contracts: each function of the program does what its function on plain data says. Made by program. -/
import Derived.Test.YtfnkbbeeilpiiaaTab
import Derived.Test.YtfnkbbeeilpiiaaWin
set_option linter.unusedVariables false
set_option linter.unusedSimpArgs false
set_option linter.unnecessarySimpa false
set_option maxHeartbeats 4000000
namespace Go.Proofs.Ytfnkbbeeilpiiaa
open Go.Vc Go.Dec Go.Win

theorem c_recent_good' (p0 : Int) (p1 : Int) (p2 : Int) (r : Bool) (h : recent_good p0 p1 p2 = r) : Contract Try.prog 56 [.int .i64 p0, .int .i64 p1, .int .i64 p2] [] (.sb r) [] := by
  refine contract_of_vcs tab_ok orders_ok Try.func56 Try.call56 (by kernel_rfl) 0 rfl rfl _ rfl ?_
  delta recent_good at h
  refine Exists.intro none ?_
  refine And.intro (fun g1 => ?_) (fun g1 => ?_)
  · skip
    refine And.intro (fun g2 => ?_) (fun g2 => ?_)
    · skip
      refine And.intro (fun g3 => ?_) (fun g3 => ?_)
      · skip
        refine And.intro (fun g4 => ?_) (fun g4 => ?_)
        · skip
          refine And.intro (fun g5 => ?_) (fun g5 => ?_)
          · skip
            subst h
            exact (And.intro (Eq.symm (aR (aR (aR (aR (aR g1 g2) g3) g4) g5) rfl)) trivial)
          · skip
            subst h
            exact (And.intro (Eq.symm (aL (aR (aR (aR (aR g1 g2) g3) g4) g5))) trivial)
        · skip
          subst h
          exact (And.intro (Eq.symm (aL (aL (aR (aR (aR g1 g2) g3) g4)))) trivial)
      · skip
        subst h
        exact (And.intro (Eq.symm (aL (aL (aL (aR (aR g1 g2) g3))))) trivial)
    · skip
      subst h
      exact (And.intro (Eq.symm (aL (aL (aL (aL (aR g1 g2)))))) trivial)
  · skip
    subst h
    exact (And.intro (Eq.symm (aL (aL (aL (aL (aL g1)))))) trivial)
theorem c_recent_good (p0 : Int) (p1 : Int) (p2 : Int) : Contract Try.prog 56 [.int .i64 p0, .int .i64 p1, .int .i64 p2] [] (.sb (recent_good p0 p1 p2)) [] := c_recent_good' p0 p1 p2 (recent_good p0 p1 p2) rfl

theorem c_recent_New' (p0 : Int) (p1 : Int) (p2 : Int) (r : (api_Recent × Int)) (h : recent_New p0 p1 p2 = r) : Contract Try.prog 14 [.int .i64 p0, .int .i64 p1, .int .i64 p2] [] (.tup [.agg [.int .i64 r.1.W, .int .i64 r.1.Cap, .int .i64 r.1.Now, .lst 2 false (List.map enc_api_Item r.1.Items)], .int .i64 r.2]) [] := by
  refine contract_of_vcs tab_ok orders_ok Try.func14 Try.call14 (by kernel_rfl) 0 rfl rfl _ rfl ?_
  delta recent_New at h
  refine Exists.intro _ (Exists.intro _ (And.intro (Contract.wk (c_recent_good p0 p1 p2) (And.intro rfl (And.intro rfl (And.intro rfl trivial)))) (And.intro rfl ?_)))
  refine And.intro (fun g1 => ?_) (fun g1 => ?_)
  · skip
    replace h := cT g1 h
    subst h
    exact (And.intro rfl (And.intro rfl (And.intro rfl (And.intro rfl (And.intro rfl trivial)))))
  · skip
    replace h := cF g1 h
    subst h
    exact (And.intro rfl (And.intro rfl (And.intro rfl (And.intro rfl (And.intro rfl trivial)))))
theorem c_recent_New (p0 : Int) (p1 : Int) (p2 : Int) : Contract Try.prog 14 [.int .i64 p0, .int .i64 p1, .int .i64 p2] [] (.tup [.agg [.int .i64 (recent_New p0 p1 p2).1.W, .int .i64 (recent_New p0 p1 p2).1.Cap, .int .i64 (recent_New p0 p1 p2).1.Now, .lst 2 false (List.map enc_api_Item (recent_New p0 p1 p2).1.Items)], .int .i64 (recent_New p0 p1 p2).2]) [] := c_recent_New' p0 p1 p2 (recent_New p0 p1 p2) rfl

theorem c_ref05_SameItems (p0 : (List api_Item)) (p1 : (List api_Item)) (r : Bool) (h : ref05_SameItems p0 p1 = some r) : Contract Try.prog 33 [.lst 2 false (List.map enc_api_Item p0), .lst 2 false (List.map enc_api_Item p1)] [] (.sb r) [] := by
  refine contract_of_vcs tab_ok orders_ok Try.func33 Try.call33 (by kernel_rfl) 0 rfl rfl _ rfl ?_
  delta ref05_SameItems at h
  refine Exists.intro [.int .i64 (p0.length : Int)] (And.intro (lenS enc_api_Item p0) ?_)
  refine Exists.intro [.int .i64 (p1.length : Int)] (And.intro (lenS enc_api_Item p1) ?_)
  refine And.intro (fun g1 => ?_) (fun g1 => ?_)
  · skip
    replace h := cT g1 h
    replace h := Option.some.inj h
    subst h
    exact (And.intro rfl trivial)
  · skip
    replace h := cF g1 h
    refine Exists.intro [.int .i64 (p0.length : Int)] (And.intro (lenS enc_api_Item p0) ?_)
    replace h : ref05_SameItems_l3 p0 p1 (0:Int) = some r := h
    delta ref05_SameItems_l3 at h
    obtain ⟨n1, h⟩ := loopS h
    refine Exists.intro ⟨Int × Nat, fun q => [(.tmp 0, .av (.lst 2 false (List.map enc_api_Item p0))), (.tmp 1, .av (.lst 2 false (List.map enc_api_Item p1))), (.tmp 12, .av (.int .i64 (p0.length : Int))), (.tmp 13, .av (.int .i64 q.1))], fun q => loopN (fun (s : Int) => ref05_SameItems_l3s p0 p1 s) q.2 q.1 = some r, fun q => q.2⟩ (And.intro (Exists.intro [] (Exists.intro [] (Exists.intro ((0:Int), n1) (And.intro h (And.intro rfl (And.intro ff (And.intro rfl (And.intro ff (And.intro rfl (And.intro rfl (And.intro rfl trivial))))))))))) ?_)
    clear h
    refine fun q h => ?_
    obtain ⟨v3_13, n1⟩ := q
    obtain ⟨m1, x1, hm1, h, hl1, hr1⟩ := loopN_step h
    replace hm1 : n1 = m1 + 1 := hm1
    subst hm1
    replace h : ref05_SameItems_l3s p0 p1 v3_13 = some x1 := h
    delta ref05_SameItems_l3s at h
    refine And.intro (fun g2 => ?_) (fun g2 => ?_)
    · skip
      replace h := cT g2 h
      obtain ⟨x6_2, e6_2, h⟩ := bS h
      obtain ⟨x6_6, e6_6, h⟩ := bS h
      refine Exists.intro [.int .i64 x6_2.T, .int .i64 x6_2.V] (And.intro (idx_map enc_api_Item e6_2) ?_)
      refine Exists.intro [.int .i64 x6_6.T, .int .i64 x6_6.V] (And.intro (idx_map enc_api_Item e6_6) ?_)
      refine And.intro (fun g3 => ?_) (fun g3 => ?_)
      · skip
        replace h := cT g3 h
        replace h := retS h hr1
        subst h
        exact (And.intro rfl trivial)
      · skip
        replace h := cF g3 h
        exact Exists.intro [] (Exists.intro [] (Exists.intro ((w64 (v3_13 + (1:Int))), m1) (And.intro (hl1 (w64 (v3_13 + (1:Int))) (Option.some.inj h).symm) (And.intro (Nat.lt_succ_self m1) (And.intro rfl (And.intro ff (And.intro rfl (And.intro ff (And.intro rfl (And.intro rfl (And.intro rfl trivial)))))))))))
    · skip
      replace h := cF g2 h
      replace h := popS h hr1
      replace h := Option.some.inj h
      subst h
      exact (And.intro rfl trivial)

theorem c_exact_tick' (p0 : Int) (r : Bool) (h : exact_tick p0 = r) : Contract Try.prog 67 [.int .i64 p0] [] (.sb r) [] := by
  refine contract_of_vcs tab_ok orders_ok Try.func67 Try.call67 (by kernel_rfl) 0 rfl rfl _ rfl ?_
  delta exact_tick at h
  refine Exists.intro none ?_
  refine And.intro (fun g1 => ?_) (fun g1 => ?_)
  · skip
    subst h
    exact (And.intro (Eq.symm (aR g1 rfl)) trivial)
  · skip
    subst h
    exact (And.intro (Eq.symm (aL g1)) trivial)
theorem c_exact_tick (p0 : Int) : Contract Try.prog 67 [.int .i64 p0] [] (.sb (exact_tick p0)) [] := c_exact_tick' p0 (exact_tick p0) rfl

theorem c_exact_Valid (p0 : (List api_Item)) (p1 : Int) (r : Bool) (h : exact_Valid p0 p1 = some r) : Contract Try.prog 34 [.lst 2 false (List.map enc_api_Item p0), .int .i64 p1] [] (.sb r) [] := by
  refine contract_of_vcs tab_ok orders_ok Try.func34 Try.call34 (by kernel_rfl) 0 rfl rfl _ rfl ?_
  delta exact_Valid at h
  refine Exists.intro _ (Exists.intro _ (And.intro (Contract.wk (c_exact_tick p1) (And.intro rfl trivial)) (And.intro rfl ?_)))
  refine And.intro (fun g1 => ?_) (fun g1 => ?_)
  · skip
    replace h := cT g1 h
    replace h := Option.some.inj h
    subst h
    exact (And.intro rfl trivial)
  · skip
    replace h := cF g1 h
    refine Exists.intro [.int .i64 (p0.length : Int)] (And.intro (lenS enc_api_Item p0) ?_)
    replace h : exact_Valid_l3 p0 p1 (0:Int) = some r := h
    delta exact_Valid_l3 at h
    obtain ⟨n1, h⟩ := loopS h
    refine Exists.intro ⟨Int × Nat, fun q => [(.tmp 0, .av (.lst 2 false (List.map enc_api_Item p0))), (.tmp 1, .av (.int .i64 p1)), (.tmp 10, .av (.lst 2 false (List.map enc_api_Item p0))), (.tmp 11, .av (.int .i64 (p0.length : Int))), (.tmp 12, .av (.int .i64 q.1))], fun q => loopN (fun (s : Int) => exact_Valid_l3s p0 p1 s) q.2 q.1 = some r, fun q => q.2⟩ (And.intro (Exists.intro [] (Exists.intro [] (Exists.intro ((0:Int), n1) (And.intro h (And.intro rfl (And.intro ff (And.intro rfl (And.intro rfl (And.intro ff (And.intro rfl (And.intro rfl (And.intro rfl trivial)))))))))))) ?_)
    clear h
    refine fun q h => ?_
    obtain ⟨v3_12, n1⟩ := q
    obtain ⟨m1, x1, hm1, h, hl1, hr1⟩ := loopN_step h
    replace hm1 : n1 = m1 + 1 := hm1
    subst hm1
    replace h : exact_Valid_l3s p0 p1 v3_12 = some x1 := h
    delta exact_Valid_l3s at h
    refine And.intro (fun g2 => ?_) (fun g2 => ?_)
    · skip
      replace h := cT g2 h
      obtain ⟨x5_1, e5_1, h⟩ := bS h
      refine Exists.intro [.int .i64 x5_1.T, .int .i64 x5_1.V] (And.intro (idx_map enc_api_Item e5_1) ?_)
      obtain ⟨x6_16, e6_16, h⟩ := bS h
      refine Exists.intro (some (⟨Unit, fun _ => [(.tmp 0, .av (.lst 2 false (List.map enc_api_Item p0))), (.tmp 1, .av (.int .i64 p1)), (.tmp 10, .av (.lst 2 false (List.map enc_api_Item p0))), (.tmp 11, .av (.int .i64 (p0.length : Int))), (.tmp 12, .av (.int .i64 v3_12)), (.tmp 40, .av (.sb (((decide (x5_1.T < (0:Int))) || (decide (x5_1.T > p1))) || ((decide (v3_12 > (0:Int))) && (decide (x6_16.T > x5_1.T))))))], fun _ => True, fun _ => 0⟩, 1000000)) (And.intro ?_ (fun _ _ => ?_))
      · skip
        refine And.intro (fun g3 => ?_) (fun g3 => ?_)
        · skip
          refine And.intro (fun g4 => ?_) (fun g4 => ?_)
          · skip
            refine And.intro (fun g5 => ?_) (fun g5 => ?_)
            · skip
              refine Exists.intro [.int .i64 x6_16.T, .int .i64 x6_16.V] (And.intro (idx_map enc_api_Item (gdT (aR (nE (oR g3 g4)) g5) e6_16)) ?_)
              exact Exists.intro [] (Exists.intro [] (Exists.intro () (And.intro trivial (And.intro rfl (And.intro ff (And.intro rfl (And.intro rfl (And.intro ff (And.intro rfl (And.intro rfl (And.intro rfl (And.intro (Eq.symm (oR (oR g3 g4) (aR g5 rfl))) trivial))))))))))))
            · skip
              exact Exists.intro [] (Exists.intro [] (Exists.intro () (And.intro trivial (And.intro rfl (And.intro ff (And.intro rfl (And.intro rfl (And.intro ff (And.intro rfl (And.intro rfl (And.intro rfl (And.intro (Eq.symm (oR (oR g3 g4) (aL g5))) trivial))))))))))))
          · skip
            exact Exists.intro [] (Exists.intro [] (Exists.intro () (And.intro trivial (And.intro rfl (And.intro ff (And.intro rfl (And.intro rfl (And.intro ff (And.intro rfl (And.intro rfl (And.intro rfl (And.intro (Eq.symm (oL (oR g3 g4))) trivial))))))))))))
        · skip
          exact Exists.intro [] (Exists.intro [] (Exists.intro () (And.intro trivial (And.intro rfl (And.intro ff (And.intro rfl (And.intro rfl (And.intro ff (And.intro rfl (And.intro rfl (And.intro rfl (And.intro (Eq.symm (oL (oL g3))) trivial))))))))))))
      · skip
        refine And.intro (fun g6 => ?_) (fun g6 => ?_)
        · skip
          replace h := cT g6 h
          replace h := retS h hr1
          subst h
          exact (And.intro rfl trivial)
        · skip
          replace h := cF g6 h
          exact Exists.intro [] (Exists.intro [] (Exists.intro ((w64 (v3_12 + (1:Int))), m1) (And.intro (hl1 (w64 (v3_12 + (1:Int))) (Option.some.inj h).symm) (And.intro (Nat.lt_succ_self m1) (And.intro rfl (And.intro ff (And.intro rfl (And.intro rfl (And.intro ff (And.intro rfl (And.intro rfl (And.intro rfl trivial))))))))))))
    · skip
      replace h := cF g2 h
      replace h := popS h hr1
      replace h := Option.some.inj h
      subst h
      exact (And.intro rfl trivial)

theorem c_clock_tick' (p0 : Int) (r : Bool) (h : clock_tick p0 = r) : Contract Try.prog 75 [.int .i64 p0] [] (.sb r) [] := by
  refine contract_of_vcs tab_ok orders_ok Try.func75 Try.call75 (by kernel_rfl) 0 rfl rfl _ rfl ?_
  delta clock_tick at h
  refine Exists.intro none ?_
  refine And.intro (fun g1 => ?_) (fun g1 => ?_)
  · skip
    subst h
    exact (And.intro (Eq.symm (aR g1 rfl)) trivial)
  · skip
    subst h
    exact (And.intro (Eq.symm (aL g1)) trivial)
theorem c_clock_tick (p0 : Int) : Contract Try.prog 75 [.int .i64 p0] [] (.sb (clock_tick p0)) [] := c_clock_tick' p0 (clock_tick p0) rfl

theorem c_clock_First' (p0 : Int) (p1 : Int) (r : Int) (h : clock_First p0 p1 = r) : Contract Try.prog 76 [.int .i64 p0, .int .i64 p1] [] (.int .i64 r) [] := by
  refine contract_of_vcs tab_ok orders_ok Try.func76 Try.call76 (by kernel_rfl) 0 rfl rfl _ rfl ?_
  delta clock_First at h
  refine Exists.intro none ?_
  refine Exists.intro _ (Exists.intro _ (And.intro (Contract.wk (c_clock_tick p0) (And.intro rfl trivial)) (And.intro rfl ?_)))
  refine And.intro (fun g1 => ?_) (fun g1 => ?_)
  · skip
    refine And.intro (fun g2 => ?_) (fun g2 => ?_)
    · skip
      refine And.intro (fun g3 => ?_) (fun g3 => ?_)
      · skip
        replace h := cT (oR (oR g1 g2) g3) h
        subst h
        exact (And.intro rfl trivial)
      · skip
        replace h := cF (oR (oR g1 g2) g3) h
        subst h
        exact (And.intro rfl trivial)
    · skip
      replace h := cT (oL (oR g1 g2)) h
      subst h
      exact (And.intro rfl trivial)
  · skip
    replace h := cT (oL (oL g1)) h
    subst h
    exact (And.intro rfl trivial)
theorem c_clock_First (p0 : Int) (p1 : Int) : Contract Try.prog 76 [.int .i64 p0, .int .i64 p1] [] (.int .i64 (clock_First p0 p1)) [] := c_clock_First' p0 p1 (clock_First p0 p1) rfl

theorem c_clock_Live' (p0 : Int) (p1 : Int) (p2 : Int) (r : Bool) (h : clock_Live p0 p1 p2 = r) : Contract Try.prog 64 [.int .i64 p0, .int .i64 p1, .int .i64 p2] [] (.sb r) [] := by
  refine contract_of_vcs tab_ok orders_ok Try.func64 Try.call64 (by kernel_rfl) 0 rfl rfl _ rfl ?_
  delta clock_Live at h
  refine Exists.intro _ (Exists.intro _ (And.intro (Contract.wk (c_clock_First p0 p1) (And.intro rfl (And.intro rfl trivial))) (And.intro rfl ?_)))
  refine Exists.intro none ?_
  refine And.intro (fun g1 => ?_) (fun g1 => ?_)
  · skip
    refine Exists.intro _ (Exists.intro _ (And.intro (Contract.wk (c_clock_tick p2) (And.intro rfl trivial)) (And.intro rfl ?_)))
    refine And.intro (fun g2 => ?_) (fun g2 => ?_)
    · skip
      refine And.intro (fun g3 => ?_) (fun g3 => ?_)
      · skip
        subst h
        exact (And.intro (Eq.symm (aR (aR (aR g1 g2) g3) rfl)) trivial)
      · skip
        subst h
        exact (And.intro (Eq.symm (aL (aR (aR g1 g2) g3))) trivial)
    · skip
      subst h
      exact (And.intro (Eq.symm (aL (aL (aR g1 g2)))) trivial)
  · skip
    subst h
    exact (And.intro (Eq.symm (aL (aL (aL g1)))) trivial)
theorem c_clock_Live (p0 : Int) (p1 : Int) (p2 : Int) : Contract Try.prog 64 [.int .i64 p0, .int .i64 p1, .int .i64 p2] [] (.sb (clock_Live p0 p1 p2)) [] := c_clock_Live' p0 p1 p2 (clock_Live p0 p1 p2) rfl

theorem c_recent_value' (p0 : Int) (r : Bool) (h : recent_value p0 = r) : Contract Try.prog 62 [.int .i64 p0] [] (.sb r) [] := by
  refine contract_of_vcs tab_ok orders_ok Try.func62 Try.call62 (by kernel_rfl) 0 rfl rfl _ rfl ?_
  delta recent_value at h
  refine Exists.intro none ?_
  refine And.intro (fun g1 => ?_) (fun g1 => ?_)
  · skip
    subst h
    exact (And.intro (Eq.symm (aR g1 rfl)) trivial)
  · skip
    subst h
    exact (And.intro (Eq.symm (aL g1)) trivial)
theorem c_recent_value (p0 : Int) : Contract Try.prog 62 [.int .i64 p0] [] (.sb (recent_value p0)) [] := c_recent_value' p0 (recent_value p0) rfl

theorem c_recent_Validate (p0 : api_Recent) (r : Int) (h : recent_Validate p0 = some r) : Contract Try.prog 27 [.agg [.int .i64 p0.W, .int .i64 p0.Cap, .int .i64 p0.Now, .lst 2 false (List.map enc_api_Item p0.Items)]] [] (.int .i64 r) [] := by
  refine contract_of_vcs tab_ok orders_ok Try.func27 Try.call27 (by kernel_rfl) 0 rfl rfl _ rfl ?_
  delta recent_Validate at h
  obtain ⟨y1_21, e1_21, h⟩ := bS h
  refine Exists.intro none ?_
  refine Exists.intro _ (Exists.intro _ (And.intro (Contract.wk (c_recent_good p0.W p0.Cap p0.Now) (And.intro rfl (And.intro rfl (And.intro rfl trivial)))) (And.intro rfl ?_)))
  refine And.intro (fun g1 => ?_) (fun g1 => ?_)
  · skip
    refine Exists.intro [.int .i64 (p0.Items.length : Int)] (And.intro (lenS enc_api_Item p0.Items) ?_)
    refine And.intro (fun g2 => ?_) (fun g2 => ?_)
    · skip
      refine Exists.intro _ (Exists.intro _ (And.intro (Contract.wk (c_exact_Valid p0.Items p0.Now y1_21 (gdT (nE (oR g1 g2)) e1_21)) (And.intro ff (And.intro rfl (And.intro rfl trivial)))) (And.intro rfl ?_)))
      refine And.intro (fun g3 => ?_) (fun g3 => ?_)
      · skip
        replace h := cT (oR (oR g1 g2) g3) h
        replace h := Option.some.inj h
        subst h
        exact (And.intro rfl trivial)
      · skip
        replace h := cF (oR (oR g1 g2) g3) h
        refine Exists.intro [.int .i64 (p0.Items.length : Int)] (And.intro (lenS enc_api_Item p0.Items) ?_)
        replace h : recent_Validate_l3 p0 (0:Int) = some r := h
        delta recent_Validate_l3 at h
        obtain ⟨n1, h⟩ := loopS h
        refine Exists.intro ⟨Int × Nat, fun q => [(.tmp 1, .av (.ptr 0 0)), (.tmp 30, .av (.lst 2 false (List.map enc_api_Item p0.Items))), (.tmp 31, .av (.int .i64 (p0.Items.length : Int))), (.tmp 32, .av (.int .i64 q.1)), (.box 0, .box [.int .i64 p0.W, .int .i64 p0.Cap, .int .i64 p0.Now, .lst 2 false (List.map enc_api_Item p0.Items)])], fun q => loopN (fun (s : Int) => recent_Validate_l3s p0 s) q.2 q.1 = some r, fun q => q.2⟩ (And.intro (Exists.intro [] (Exists.intro [] (Exists.intro ((0:Int), n1) (And.intro h (And.intro rfl (And.intro ff (And.intro rfl (And.intro rfl (And.intro rfl (And.intro rfl (And.intro rfl (And.intro rfl (And.intro ff (And.intro rfl trivial)))))))))))))) ?_)
        clear h
        refine fun q h => ?_
        obtain ⟨v3_32, n1⟩ := q
        obtain ⟨m1, x1, hm1, h, hl1, hr1⟩ := loopN_step h
        replace hm1 : n1 = m1 + 1 := hm1
        subst hm1
        replace h : recent_Validate_l3s p0 v3_32 = some x1 := h
        delta recent_Validate_l3s at h
        refine And.intro (fun g4 => ?_) (fun g4 => ?_)
        · skip
          replace h := cT g4 h
          obtain ⟨x5_0, e5_0, h⟩ := bS h
          refine Exists.intro [.int .i64 x5_0.T, .int .i64 x5_0.V] (And.intro (idx_map enc_api_Item e5_0) ?_)
          refine Exists.intro none ?_
          refine Exists.intro _ (Exists.intro _ (And.intro (Contract.wk (c_clock_Live p0.Now p0.W x5_0.T) (And.intro rfl (And.intro rfl (And.intro rfl trivial)))) (And.intro rfl ?_)))
          refine And.intro (fun g5 => ?_) (fun g5 => ?_)
          · skip
            refine Exists.intro _ (Exists.intro _ (And.intro (Contract.wk (c_recent_value x5_0.V) (And.intro rfl trivial)) (And.intro rfl ?_)))
            refine And.intro (fun g6 => ?_) (fun g6 => ?_)
            · skip
              replace h := cT (oR g5 g6) h
              replace h := retS h hr1
              subst h
              exact (And.intro rfl trivial)
            · skip
              replace h := cF (oR g5 g6) h
              exact Exists.intro [] (Exists.intro [] (Exists.intro ((w64 (v3_32 + (1:Int))), m1) (And.intro (hl1 (w64 (v3_32 + (1:Int))) (Option.some.inj h).symm) (And.intro (Nat.lt_succ_self m1) (And.intro rfl (And.intro ff (And.intro rfl (And.intro rfl (And.intro rfl (And.intro rfl (And.intro rfl (And.intro rfl (And.intro ff (And.intro rfl trivial))))))))))))))
          · skip
            replace h := cT (oL g5) h
            replace h := retS h hr1
            subst h
            exact (And.intro rfl trivial)
        · skip
          replace h := cF g4 h
          replace h := popS h hr1
          replace h := Option.some.inj h
          subst h
          exact (And.intro rfl trivial)
    · skip
      replace h := cT (oL (oR g1 g2)) h
      replace h := Option.some.inj h
      subst h
      exact (And.intro rfl trivial)
  · skip
    replace h := cT (oL (oL g1)) h
    replace h := Option.some.inj h
    subst h
    exact (And.intro rfl trivial)

theorem c_recent_Add (p0 : api_Recent) (p1 : Int) (r : (api_Recent × Int)) (h : recent_Add p0 p1 = some r) : Contract Try.prog 25 [.agg [.int .i64 p0.W, .int .i64 p0.Cap, .int .i64 p0.Now, .lst 2 false (List.map enc_api_Item p0.Items)], .int .i64 p1] [] (.tup [.agg [.int .i64 r.1.W, .int .i64 r.1.Cap, .int .i64 r.1.Now, .lst 2 false (List.map enc_api_Item r.1.Items)], .int .i64 r.2]) [] := by
  refine contract_of_vcs tab_ok orders_ok Try.func25 Try.call25 (by kernel_rfl) 0 rfl rfl _ rfl ?_
  delta recent_Add at h
  obtain ⟨y1_1, e1_1, h⟩ := bS h
  refine Exists.intro _ (Exists.intro _ (And.intro (Contract.wk (c_recent_Validate p0 y1_1 e1_1) (And.intro rfl (And.intro rfl (And.intro rfl (And.intro ff (And.intro rfl trivial)))))) (And.intro rfl ?_)))
  refine And.intro (fun g1 => ?_) (fun g1 => ?_)
  · skip
    replace h := cT g1 h
    replace h := Option.some.inj h
    subst h
    exact (And.intro rfl (And.intro rfl (And.intro rfl (And.intro rfl (And.intro rfl trivial)))))
  · skip
    replace h := cF g1 h
    refine Exists.intro _ (Exists.intro _ (And.intro (Contract.wk (c_recent_value p1) (And.intro rfl trivial)) (And.intro rfl ?_)))
    refine And.intro (fun g2 => ?_) (fun g2 => ?_)
    · skip
      replace h := cT g2 h
      replace h := Option.some.inj h
      subst h
      exact (And.intro rfl (And.intro rfl (And.intro rfl (And.intro rfl (And.intro rfl trivial)))))
    · skip
      replace h := cF g2 h
      refine Exists.intro [.int .i64 (p0.Items.length : Int)] (And.intro (lenS enc_api_Item p0.Items) ?_)
      refine And.intro (fun g3 => ?_) (fun g3 => ?_)
      · skip
        replace h := cT g3 h
        replace h := Option.some.inj h
        subst h
        exact (And.intro rfl (And.intro rfl (And.intro rfl (And.intro rfl (And.intro rfl trivial)))))
      · skip
        replace h := cF g3 h
        refine Exists.intro [.int .i64 (p0.Items.length : Int)] (And.intro (lenS enc_api_Item p0.Items) ?_)
        obtain ⟨k9_4, h⟩ := ckS h
        obtain ⟨k9_10, h⟩ := ckS h
        refine And.intro (by have hh := (of_decide_eq_true k9_4); (try simp only [fixRows_length, List.length_map, List.length_append, List.length_take, List.length_drop, List.length_set, List.length_replicate, List.length_cons, List.length_nil] at hh); (try simp only [fixRows_length, List.length_map, List.length_append, List.length_take, List.length_drop, List.length_set, List.length_replicate, List.length_cons, List.length_nil]); omega) ?_
        refine And.intro (by have hh := (of_decide_eq_true k9_10); refine ⟨fun e => ?_, ?_⟩; (have h0 := congrArg List.length e; have h1 := List.length_pos_iff.2 hh.1; (try simp only [fixRows_length, List.length_map, List.length_append, List.length_take, List.length_drop, List.length_set, List.length_replicate, List.length_cons, List.length_nil] at h0); (try simp only [fixRows_length, List.length_map, List.length_append, List.length_take, List.length_drop, List.length_set, List.length_replicate, List.length_cons, List.length_nil] at h1); omega); replace hh := hh.2; (try simp only [fixRows_length, List.length_map, List.length_append, List.length_take, List.length_drop, List.length_set, List.length_replicate, List.length_cons, List.length_nil] at hh); (try simp only [fixRows_length, List.length_map, List.length_append, List.length_take, List.length_drop, List.length_set, List.length_replicate, List.length_cons, List.length_nil]); omega) ?_
        replace h := Option.some.inj h
        subst h
        exact (And.intro rfl (And.intro rfl (And.intro rfl (And.intro ff (And.intro (by first | rfl | (simp only [List.map_append, List.map_cons, List.map_nil, List.map_take, List.map_drop, List.map_set, List.map_replicate]; done) | (simp only [List.map_append, List.map_cons, List.map_nil, List.map_take, List.map_drop, List.map_set, List.map_replicate]; rfl) | (simp only [List.map_append, List.map_cons, List.map_nil, List.map_take, List.map_drop, List.map_set, List.map_replicate, eL, enc_api_Recent, enc_api_Chain, enc_chain_source, enc_made_Tape, enc_law18_leaf]; done) | (simp only [List.map_append, List.map_cons, List.map_nil, List.map_take, List.map_drop, List.map_set, List.map_replicate, eL, enc_api_Recent, enc_api_Chain, enc_chain_source, enc_made_Tape, enc_law18_leaf]; rfl)) (And.intro rfl trivial))))))

theorem c_law09_awake (r : Bool) (h : law09_awake = some r) : Contract Try.prog 17 [] [] (.sb r) [] := by
  refine contract_of_vcs tab_ok orders_ok Try.func17 Try.call17 (by kernel_rfl) 0 rfl rfl _ rfl ?_
  delta law09_awake at h
  refine Exists.intro _ (Exists.intro _ (And.intro (Contract.wk (c_recent_New (3:Int) (2:Int) (0:Int)) (And.intro rfl (And.intro rfl (And.intro rfl trivial)))) (And.intro rfl ?_)))
  obtain ⟨y2_1, e2_1, h⟩ := bS h
  refine Exists.intro _ (Exists.intro _ (And.intro (Contract.wk (c_recent_Add (recent_New (3:Int) (2:Int) (0:Int)).1 (5:Int) y2_1 e2_1) (And.intro rfl (And.intro rfl (And.intro rfl (And.intro ff (And.intro rfl (And.intro rfl trivial))))))) (And.intro rfl ?_)))
  refine Exists.intro none ?_
  refine And.intro (fun g1 => ?_) (fun g1 => ?_)
  · skip
    refine And.intro (fun g2 => ?_) (fun g2 => ?_)
    · skip
      refine Exists.intro [.int .i64 (y2_1.1.Items.length : Int)] (And.intro (lenS enc_api_Item y2_1.1.Items) ?_)
      replace h := Option.some.inj h
      subst h
      exact (And.intro (Eq.symm (aR (aR g1 g2) rfl)) trivial)
    · skip
      replace h := Option.some.inj h
      subst h
      exact (And.intro (Eq.symm (aL (aR g1 g2))) trivial)
  · skip
    replace h := Option.some.inj h
    subst h
    exact (And.intro (Eq.symm (aL (aL g1))) trivial)

theorem c_clock_Advance' (p0 : Int) (p1 : Int) (r : (Int × Int)) (h : clock_Advance p0 p1 = r) : Contract Try.prog 60 [.int .i64 p0, .int .i64 p1] [] (.tup [.int .i64 r.1, .int .i64 r.2]) [] := by
  refine contract_of_vcs tab_ok orders_ok Try.func60 Try.call60 (by kernel_rfl) 0 rfl rfl _ rfl ?_
  delta clock_Advance at h
  refine Exists.intro _ (Exists.intro _ (And.intro (Contract.wk (c_clock_tick p0) (And.intro rfl trivial)) (And.intro rfl ?_)))
  refine And.intro (fun g1 => ?_) (fun g1 => ?_)
  · skip
    replace h := cT g1 h
    subst h
    exact (And.intro rfl (And.intro rfl trivial))
  · skip
    replace h := cF g1 h
    refine Exists.intro none ?_
    refine And.intro (fun g2 => ?_) (fun g2 => ?_)
    · skip
      refine And.intro (fun g3 => ?_) (fun g3 => ?_)
      · skip
        replace h := cT (oR g2 g3) h
        subst h
        exact (And.intro rfl (And.intro rfl trivial))
      · skip
        replace h := cF (oR g2 g3) h
        subst h
        exact (And.intro rfl (And.intro rfl trivial))
    · skip
      replace h := cT (oL g2) h
      subst h
      exact (And.intro rfl (And.intro rfl trivial))
theorem c_clock_Advance (p0 : Int) (p1 : Int) : Contract Try.prog 60 [.int .i64 p0, .int .i64 p1] [] (.tup [.int .i64 (clock_Advance p0 p1).1, .int .i64 (clock_Advance p0 p1).2]) [] := c_clock_Advance' p0 p1 (clock_Advance p0 p1) rfl

theorem c_exact_Live (p0 : (List api_Item)) (p1 : Int) (p2 : Int) (r : (List api_Item)) (h : exact_Live p0 p1 p2 = some r) : Contract Try.prog 36 [.lst 2 false (List.map enc_api_Item p0), .int .i64 p1, .int .i64 p2] [] (.lst 2 false (List.map enc_api_Item r)) [] := by
  refine contract_of_vcs tab_ok orders_ok Try.func36 Try.call36 (by kernel_rfl) 0 rfl rfl _ rfl ?_
  delta exact_Live at h
  obtain ⟨y1_2, e1_2, h⟩ := bS h
  refine Exists.intro _ (Exists.intro _ (And.intro (Contract.wk (c_exact_Valid p0 p1 y1_2 e1_2) (And.intro ff (And.intro rfl (And.intro rfl trivial)))) (And.intro rfl ?_)))
  refine And.intro (fun g1 => ?_) (fun g1 => ?_)
  · skip
    replace h := cT g1 h
    replace h := Option.some.inj h
    subst h
    exact (And.intro rfl trivial)
  · skip
    replace h := cF g1 h
    refine Exists.intro [.int .i64 (p0.length : Int)] (And.intro (lenS enc_api_Item p0) ?_)
    replace h : exact_Live_l3 p0 p1 p2 ([] : List api_Item) (0:Int) = some r := h
    delta exact_Live_l3 at h
    obtain ⟨n1, h⟩ := loopS h
    refine Exists.intro ⟨((List api_Item) × Int) × Nat, fun q => [(.tmp 1, .av (.int .i64 p1)), (.tmp 2, .av (.int .i64 p2)), (.tmp 7, .av (.own 1023)), (.tmp 14, .av (.lst 2 false (List.map enc_api_Item p0))), (.tmp 15, .av (.int .i64 (p0.length : Int))), (.tmp 16, .av (.int .i64 q.1.2)), (.tok 1023, .tok 43 2 (List.map enc_api_Item q.1.1))], fun q => loopN (fun (s : ((List api_Item) × Int)) => exact_Live_l3s p0 p1 p2 s.1 s.2) q.2 q.1 = some r, fun q => q.2⟩ (And.intro (Exists.intro [(1023, none)] (Exists.intro [] (Exists.intro ((([] : List api_Item), (0:Int)), n1) (And.intro h (And.intro rfl (And.intro rfl (And.intro rfl (And.intro ff (And.intro rfl (And.intro rfl (And.intro rfl (And.intro rfl trivial)))))))))))) ?_)
    clear h
    refine fun q h => ?_
    obtain ⟨⟨v3_7, v3_16⟩, n1⟩ := q
    obtain ⟨m1, x1, hm1, h, hl1, hr1⟩ := loopN_step h
    replace hm1 : n1 = m1 + 1 := hm1
    subst hm1
    replace h : exact_Live_l3s p0 p1 p2 v3_7 v3_16 = some x1 := h
    delta exact_Live_l3s at h
    refine And.intro (fun g2 => ?_) (fun g2 => ?_)
    · skip
      replace h := cT g2 h
      refine Exists.intro none ?_
      obtain ⟨x6_0, e6_0, h⟩ := bS h
      refine Exists.intro [.int .i64 x6_0.T, .int .i64 x6_0.V] (And.intro (idx_map enc_api_Item e6_0) ?_)
      refine Exists.intro _ (Exists.intro _ (And.intro (Contract.wk (c_clock_Live p1 p2 x6_0.T) (And.intro rfl (And.intro rfl (And.intro rfl trivial)))) (And.intro rfl ?_)))
      refine Exists.intro none ?_
      refine And.intro (fun g3 => ?_) (fun g3 => ?_)
      · skip
        replace h := cT g3 h
        obtain ⟨k8_3, h⟩ := ckS h
        refine And.intro (by have hh := (of_decide_eq_true k8_3); (try simp only [fixRows_length, List.length_map, List.length_append, List.length_take, List.length_drop, List.length_set, List.length_replicate, List.length_cons, List.length_nil] at hh); (try simp only [fixRows_length, List.length_map, List.length_append, List.length_take, List.length_drop, List.length_set, List.length_replicate, List.length_cons, List.length_nil]); omega) ?_
        exact Exists.intro [(1023, some 1795)] (Exists.intro [] (Exists.intro (((v3_7 ++ [x6_0]), (w64 (v3_16 + (1:Int)))), m1) (And.intro (hl1 ((v3_7 ++ [x6_0]), (w64 (v3_16 + (1:Int)))) (Option.some.inj h).symm) (And.intro (Nat.lt_succ_self m1) (And.intro rfl (And.intro rfl (And.intro rfl (And.intro ff (And.intro rfl (And.intro rfl (And.intro rfl (And.intro (by first | rfl | (simp only [List.map_append, List.map_cons, List.map_nil, List.map_take, List.map_drop, List.map_set, List.map_replicate]; done) | (simp only [List.map_append, List.map_cons, List.map_nil, List.map_take, List.map_drop, List.map_set, List.map_replicate]; rfl) | (simp only [List.map_append, List.map_cons, List.map_nil, List.map_take, List.map_drop, List.map_set, List.map_replicate, eL, enc_api_Recent, enc_api_Chain, enc_chain_source, enc_made_Tape, enc_law18_leaf]; done) | (simp only [List.map_append, List.map_cons, List.map_nil, List.map_take, List.map_drop, List.map_set, List.map_replicate, eL, enc_api_Recent, enc_api_Chain, enc_chain_source, enc_made_Tape, enc_law18_leaf]; rfl)) trivial))))))))))))
      · skip
        replace h := cF g3 h
        exact Exists.intro [] (Exists.intro [] (Exists.intro ((v3_7, (w64 (v3_16 + (1:Int)))), m1) (And.intro (hl1 (v3_7, (w64 (v3_16 + (1:Int)))) (Option.some.inj h).symm) (And.intro (Nat.lt_succ_self m1) (And.intro rfl (And.intro rfl (And.intro rfl (And.intro ff (And.intro rfl (And.intro rfl (And.intro rfl (And.intro rfl trivial))))))))))))
    · skip
      replace h := cF g2 h
      replace h := popS h hr1
      replace h := Option.some.inj h
      subst h
      exact (And.intro ff (And.intro rfl trivial))

theorem c_recent_Advance (p0 : api_Recent) (p1 : Int) (r : (api_Recent × Int)) (h : recent_Advance p0 p1 = some r) : Contract Try.prog 23 [.agg [.int .i64 p0.W, .int .i64 p0.Cap, .int .i64 p0.Now, .lst 2 false (List.map enc_api_Item p0.Items)], .int .i64 p1] [] (.tup [.agg [.int .i64 r.1.W, .int .i64 r.1.Cap, .int .i64 r.1.Now, .lst 2 false (List.map enc_api_Item r.1.Items)], .int .i64 r.2]) [] := by
  refine contract_of_vcs tab_ok orders_ok Try.func23 Try.call23 (by kernel_rfl) 0 rfl rfl _ rfl ?_
  delta recent_Advance at h
  obtain ⟨y1_1, e1_1, h⟩ := bS h
  refine Exists.intro _ (Exists.intro _ (And.intro (Contract.wk (c_recent_Validate p0 y1_1 e1_1) (And.intro rfl (And.intro rfl (And.intro rfl (And.intro ff (And.intro rfl trivial)))))) (And.intro rfl ?_)))
  refine And.intro (fun g1 => ?_) (fun g1 => ?_)
  · skip
    replace h := cT g1 h
    replace h := Option.some.inj h
    subst h
    exact (And.intro rfl (And.intro rfl (And.intro rfl (And.intro rfl (And.intro rfl trivial)))))
  · skip
    replace h := cF g1 h
    refine Exists.intro _ (Exists.intro _ (And.intro (Contract.wk (c_clock_Advance p0.Now p1) (And.intro rfl (And.intro rfl trivial))) (And.intro rfl ?_)))
    refine And.intro (fun g2 => ?_) (fun g2 => ?_)
    · skip
      replace h := cT g2 h
      replace h := Option.some.inj h
      subst h
      exact (And.intro rfl (And.intro rfl (And.intro rfl (And.intro rfl (And.intro rfl trivial)))))
    · skip
      replace h := cF g2 h
      obtain ⟨y8_5, e8_5, h⟩ := bS h
      refine Exists.intro _ (Exists.intro _ (And.intro (Contract.wk (c_exact_Live p0.Items p1 p0.W y8_5 e8_5) (And.intro ff (And.intro rfl (And.intro rfl (And.intro rfl trivial))))) (And.intro rfl ?_)))
      replace h := Option.some.inj h
      subst h
      exact (And.intro rfl (And.intro rfl (And.intro rfl (And.intro ff (And.intro rfl (And.intro rfl trivial))))))

theorem c_made_Mod (p0 : Int) (p1 : Int) (r : Int) (h : made_Mod p0 p1 = some r) : Contract Try.prog 29 [.int .i64 p0, .int .i64 p1] [] (.int .i64 r) [] := by
  refine contract_of_vcs tab_ok orders_ok Try.func29 Try.call29 (by kernel_rfl) 0 rfl rfl _ rfl ?_
  delta made_Mod at h
  obtain ⟨k1_2, h⟩ := ckS h
  refine And.intro (of_decide_eq_true k1_2) ?_
  refine And.intro (fun g1 => ?_) (fun g1 => ?_)
  · skip
    replace h := cT g1 h
    replace h := Option.some.inj h
    subst h
    exact (And.intro rfl trivial)
  · skip
    replace h := cF g1 h
    replace h := Option.some.inj h
    subst h
    exact (And.intro rfl trivial)

theorem c_made_Int (p0 : Int) (p1 : Int) (r : Int) (h : made_Int p0 p1 = some r) : Contract Try.prog 30 [.int .i64 p0, .int .i64 p1] [] (.int .i64 r) [] := by
  refine contract_of_vcs tab_ok orders_ok Try.func30 Try.call30 (by kernel_rfl) 0 rfl rfl _ rfl ?_
  delta made_Int at h
  obtain ⟨y1_2, e1_2, h⟩ := bS h
  refine Exists.intro _ (Exists.intro _ (And.intro (Contract.wk (c_made_Mod p0 p1 y1_2 e1_2) (And.intro rfl (And.intro rfl trivial))) (And.intro rfl ?_)))
  replace h := Option.some.inj h
  subst h
  exact (And.intro rfl trivial)

theorem c_made_Gap (p0 : Int) (p1 : Int) (r : Int) (h : made_Gap p0 p1 = some r) : Contract Try.prog 66 [.int .i64 p0, .int .i64 p1] [] (.int .i64 r) [] := by
  refine contract_of_vcs tab_ok orders_ok Try.func66 Try.call66 (by kernel_rfl) 0 rfl rfl _ rfl ?_
  delta made_Gap at h
  refine And.intro (by decide) ?_
  obtain ⟨y2_1, e2_1, h⟩ := bS h
  refine Exists.intro _ (Exists.intro _ (And.intro (Contract.wk (c_made_Mod p0 (8:Int) y2_1 e2_1) (And.intro rfl (And.intro rfl trivial))) (And.intro rfl ?_)))
  refine Exists.intro none ?_
  refine Exists.intro none ?_
  refine And.intro (fun g1 => ?_) (fun g1 => ?_)
  · skip
    replace h := cT g1 h
    obtain ⟨y4_4, e4_4, h⟩ := bS h
    refine Exists.intro _ (Exists.intro _ (And.intro (Contract.wk (c_made_Mod (w64 (Int.tdiv p0 (8:Int))) (w64 ((w64 ((2:Int) * p1)) + (2:Int))) y4_4 e4_4) (And.intro rfl (And.intro rfl trivial))) (And.intro rfl ?_)))
    replace h := Option.some.inj h
    subst h
    exact (And.intro rfl trivial)
  · skip
    replace h := cF g1 h
    refine Exists.intro (some (⟨Bool, fun j3_17 => [(.tmp 5, .av (.int .i64 (w64 (Int.tdiv p0 (8:Int))))), (.tmp 17, .av (.sb j3_17))], fun j3_17 => made_Gap_j3 p0 j3_17 = some r, fun _ => 0⟩, 1000000)) (And.intro ?_ ?_)
    · skip
      refine And.intro (fun g2 => ?_) (fun g2 => ?_)
      · skip
        replace h := cT g2 h
        exact Exists.intro [] (Exists.intro [] (Exists.intro (y2_1 == (1:Int)) (And.intro h (And.intro rfl (And.intro rfl (And.intro (Eq.symm g2) trivial))))))
      · skip
        replace h := cF g2 h
        exact Exists.intro [] (Exists.intro [] (Exists.intro (y2_1 == (2:Int)) (And.intro h (And.intro rfl (And.intro rfl (And.intro rfl trivial))))))
    · skip
      clear h
      refine fun j3_17 h => ?_
      replace h : made_Gap_j3 p0 j3_17 = some r := h
      delta made_Gap_j3 at h
      refine And.intro (fun g3 => ?_) (fun g3 => ?_)
      · skip
        replace h := cT g3 h
        obtain ⟨y7_1, e7_1, h⟩ := bS h
        refine Exists.intro _ (Exists.intro _ (And.intro (Contract.wk (c_made_Mod (w64 (Int.tdiv p0 (8:Int))) (3:Int) y7_1 e7_1) (And.intro rfl (And.intro rfl trivial))) (And.intro rfl ?_)))
        replace h := Option.some.inj h
        subst h
        exact (And.intro rfl trivial)
      · skip
        replace h := cF g3 h
        replace h := Option.some.inj h
        subst h
        exact (And.intro rfl trivial)

theorem c_made_Value (p0 : Int) (r : Int) (h : made_Value p0 = some r) : Contract Try.prog 52 [.int .i64 p0] [] (.int .i64 r) [] := by
  refine contract_of_vcs tab_ok orders_ok Try.func52 Try.call52 (by kernel_rfl) 0 rfl rfl _ rfl ?_
  delta made_Value at h
  refine And.intro (by decide) ?_
  obtain ⟨y2_1, e2_1, h⟩ := bS h
  refine Exists.intro _ (Exists.intro _ (And.intro (Contract.wk (c_made_Mod p0 (8:Int) y2_1 e2_1) (And.intro rfl (And.intro rfl trivial))) (And.intro rfl ?_)))
  refine And.intro (fun g1 => ?_) (fun g1 => ?_)
  · skip
    replace h := cT g1 h
    obtain ⟨y4_1, e4_1, h⟩ := bS h
    refine Exists.intro _ (Exists.intro _ (And.intro (Contract.wk (c_made_Mod (w64 (Int.tdiv p0 (8:Int))) (8193:Int) y4_1 e4_1) (And.intro rfl (And.intro rfl trivial))) (And.intro rfl ?_)))
    replace h := Option.some.inj h
    subst h
    exact (And.intro rfl trivial)
  · skip
    replace h := cF g1 h
    refine And.intro (fun g2 => ?_) (fun g2 => ?_)
    · skip
      replace h := cT g2 h
      obtain ⟨y6_1, e6_1, h⟩ := bS h
      refine Exists.intro _ (Exists.intro _ (And.intro (Contract.wk (c_made_Mod (w64 (Int.tdiv p0 (8:Int))) (2:Int) y6_1 e6_1) (And.intro rfl (And.intro rfl trivial))) (And.intro rfl ?_)))
      replace h := Option.some.inj h
      subst h
      exact (And.intro rfl trivial)
    · skip
      replace h := cF g2 h
      obtain ⟨y7_1, e7_1, h⟩ := bS h
      refine Exists.intro _ (Exists.intro _ (And.intro (Contract.wk (c_made_Mod (w64 (Int.tdiv p0 (8:Int))) (13:Int) y7_1 e7_1) (And.intro rfl (And.intro rfl trivial))) (And.intro rfl ?_)))
      replace h := Option.some.inj h
      subst h
      exact (And.intro rfl trivial)

theorem c_made_Items (p0 : (List api_Item)) (p1 : Int) (p2 : Int) (r : (List api_Item)) (h : made_Items p0 p1 p2 = some r) : Contract Try.prog 31 [.lst 2 false (List.map enc_api_Item p0), .int .i64 p1, .int .i64 p2] [] (.lst 2 false (List.map enc_api_Item r)) [] := by
  refine contract_of_vcs tab_ok orders_ok Try.func31 Try.call31 (by kernel_rfl) 0 rfl rfl _ rfl ?_
  delta made_Items at h
  replace h : made_Items_l2 p0 p1 p2 ([] : List api_Item) (0:Int) (0:Int) = some r := h
  delta made_Items_l2 at h
  obtain ⟨n1, h⟩ := loopS h
  refine Exists.intro ⟨((List api_Item) × Int × Int) × Nat, fun q => [(.tmp 0, .av (.lst 2 false (List.map enc_api_Item p0))), (.tmp 1, .av (.int .i64 p1)), (.tmp 2, .av (.int .i64 p2)), (.tmp 7, .av (.own 1023)), (.tmp 8, .av (.int .i64 q.1.2.1)), (.tmp 9, .av (.int .i64 q.1.2.2)), (.tok 1023, .tok 43 2 (List.map enc_api_Item q.1.1))], fun q => loopN (fun (s : ((List api_Item) × Int × Int)) => made_Items_l2s p0 p1 p2 s.1 s.2.1 s.2.2) q.2 q.1 = some r, fun q => q.2⟩ (And.intro (Exists.intro [(1023, none)] (Exists.intro [] (Exists.intro ((([] : List api_Item), (0:Int), (0:Int)), n1) (And.intro h (And.intro rfl (And.intro ff (And.intro rfl (And.intro rfl (And.intro rfl (And.intro rfl (And.intro rfl (And.intro rfl trivial)))))))))))) ?_)
  clear h
  refine fun q h => ?_
  obtain ⟨⟨v2_7, v2_8, v2_9⟩, n1⟩ := q
  obtain ⟨m1, x1, hm1, h, hl1, hr1⟩ := loopN_step h
  replace hm1 : n1 = m1 + 1 := hm1
  subst hm1
  replace h : made_Items_l2s p0 p1 p2 v2_7 v2_8 v2_9 = some x1 := h
  delta made_Items_l2s at h
  refine Exists.intro (some (⟨Unit, fun _ => [(.tmp 0, .av (.lst 2 false (List.map enc_api_Item p0))), (.tmp 1, .av (.int .i64 p1)), (.tmp 2, .av (.int .i64 p2)), (.tmp 7, .av (.own 1023)), (.tmp 8, .av (.int .i64 v2_8)), (.tmp 9, .av (.int .i64 v2_9)), (.tmp 18, .av (.sb ((decide (v2_9 < (p0.length : Int))) && (decide (v2_9 < p2))))), (.tok 1023, .tok 43 2 (List.map enc_api_Item v2_7))], fun _ => True, fun _ => 0⟩, 1000000)) (And.intro ?_ (fun _ _ => ?_))
  · skip
    refine Exists.intro [.int .i64 (p0.length : Int)] (And.intro (lenS enc_api_Item p0) ?_)
    refine And.intro (fun g1 => ?_) (fun g1 => ?_)
    · skip
      exact Exists.intro [] (Exists.intro [] (Exists.intro () (And.intro trivial (And.intro rfl (And.intro ff (And.intro rfl (And.intro rfl (And.intro rfl (And.intro rfl (And.intro rfl (And.intro (Eq.symm (aR g1 rfl)) (And.intro rfl trivial))))))))))))
    · skip
      exact Exists.intro [] (Exists.intro [] (Exists.intro () (And.intro trivial (And.intro rfl (And.intro ff (And.intro rfl (And.intro rfl (And.intro rfl (And.intro rfl (And.intro rfl (And.intro (Eq.symm (aL g1)) (And.intro rfl trivial))))))))))))
  · skip
    refine And.intro (fun g2 => ?_) (fun g2 => ?_)
    · skip
      replace h := cT g2 h
      obtain ⟨x6_3, e6_3, h⟩ := bS h
      obtain ⟨y6_7, e6_7, h⟩ := bS h
      refine Exists.intro [.int .i64 x6_3.T, .int .i64 x6_3.V] (And.intro (idx_map enc_api_Item e6_3) ?_)
      refine Exists.intro _ (Exists.intro _ (And.intro (Contract.wk (c_made_Gap x6_3.T p1 y6_7 e6_7) (And.intro rfl (And.intro rfl trivial))) (And.intro rfl ?_)))
      obtain ⟨x7_4, e7_4, h⟩ := bS h
      obtain ⟨y7_7, e7_7, h⟩ := bS h
      obtain ⟨k7_10, h⟩ := ckS h
      refine Exists.intro [.int .i64 x7_4.T, .int .i64 x7_4.V] (And.intro (idx_map enc_api_Item e7_4) ?_)
      refine Exists.intro _ (Exists.intro _ (And.intro (Contract.wk (c_made_Value x7_4.V y7_7 e7_7) (And.intro rfl trivial)) (And.intro rfl ?_)))
      refine And.intro (by have hh := (of_decide_eq_true k7_10); (try simp only [fixRows_length, List.length_map, List.length_append, List.length_take, List.length_drop, List.length_set, List.length_replicate, List.length_cons, List.length_nil] at hh); (try simp only [fixRows_length, List.length_map, List.length_append, List.length_take, List.length_drop, List.length_set, List.length_replicate, List.length_cons, List.length_nil]); omega) ?_
      exact Exists.intro [(1023, some 1000266)] (Exists.intro [] (Exists.intro (((v2_7 ++ [(api_Item.mk (w64 (v2_8 + y6_7)) y7_7)]), (w64 (v2_8 + y6_7)), (w64 (v2_9 + (1:Int)))), m1) (And.intro (hl1 ((v2_7 ++ [(api_Item.mk (w64 (v2_8 + y6_7)) y7_7)]), (w64 (v2_8 + y6_7)), (w64 (v2_9 + (1:Int)))) (Option.some.inj h).symm) (And.intro (Nat.lt_succ_self m1) (And.intro rfl (And.intro ff (And.intro rfl (And.intro rfl (And.intro rfl (And.intro rfl (And.intro rfl (And.intro (by first | rfl | (simp only [List.map_append, List.map_cons, List.map_nil, List.map_take, List.map_drop, List.map_set, List.map_replicate]; done) | (simp only [List.map_append, List.map_cons, List.map_nil, List.map_take, List.map_drop, List.map_set, List.map_replicate]; rfl) | (simp only [List.map_append, List.map_cons, List.map_nil, List.map_take, List.map_drop, List.map_set, List.map_replicate, eL, enc_api_Recent, enc_api_Chain, enc_chain_source, enc_made_Tape, enc_law18_leaf]; done) | (simp only [List.map_append, List.map_cons, List.map_nil, List.map_take, List.map_drop, List.map_set, List.map_replicate, eL, enc_api_Recent, enc_api_Chain, enc_chain_source, enc_made_Tape, enc_law18_leaf]; rfl)) trivial))))))))))))
    · skip
      replace h := cF g2 h
      replace h := popS h hr1
      replace h := Option.some.inj h
      subst h
      exact (And.intro ff (And.intro rfl trivial))

theorem c_made_Live (p0 : (List api_Item)) (p1 : Int) (p2 : Int) (r : (List api_Item)) (h : made_Live p0 p1 p2 = some r) : Contract Try.prog 32 [.lst 2 false (List.map enc_api_Item p0), .int .i64 p1, .int .i64 p2] [] (.lst 2 false (List.map enc_api_Item r)) [] := by
  refine contract_of_vcs tab_ok orders_ok Try.func32 Try.call32 (by kernel_rfl) 0 rfl rfl _ rfl ?_
  delta made_Live at h
  refine Exists.intro [.int .i64 (p0.length : Int)] (And.intro (lenS enc_api_Item p0) ?_)
  replace h : made_Live_l2 p0 p1 p2 ([] : List api_Item) (0:Int) = some r := h
  delta made_Live_l2 at h
  obtain ⟨n1, h⟩ := loopS h
  refine Exists.intro ⟨((List api_Item) × Int) × Nat, fun q => [(.tmp 1, .av (.int .i64 p1)), (.tmp 2, .av (.int .i64 p2)), (.tmp 7, .av (.own 767)), (.tmp 10, .av (.lst 2 false (List.map enc_api_Item p0))), (.tmp 11, .av (.int .i64 (p0.length : Int))), (.tmp 12, .av (.int .i64 q.1.2)), (.tok 767, .tok 43 2 (List.map enc_api_Item q.1.1))], fun q => loopN (fun (s : ((List api_Item) × Int)) => made_Live_l2s p0 p1 p2 s.1 s.2) q.2 q.1 = some r, fun q => q.2⟩ (And.intro (Exists.intro [(767, none)] (Exists.intro [] (Exists.intro ((([] : List api_Item), (0:Int)), n1) (And.intro h (And.intro rfl (And.intro rfl (And.intro rfl (And.intro ff (And.intro rfl (And.intro rfl (And.intro rfl (And.intro rfl trivial)))))))))))) ?_)
  clear h
  refine fun q h => ?_
  obtain ⟨⟨v2_7, v2_12⟩, n1⟩ := q
  obtain ⟨m1, x1, hm1, h, hl1, hr1⟩ := loopN_step h
  replace hm1 : n1 = m1 + 1 := hm1
  subst hm1
  replace h : made_Live_l2s p0 p1 p2 v2_7 v2_12 = some x1 := h
  delta made_Live_l2s at h
  refine And.intro (fun g1 => ?_) (fun g1 => ?_)
  · skip
    replace h := cT g1 h
    refine Exists.intro none ?_
    obtain ⟨x4_0, e4_0, h⟩ := bS h
    refine Exists.intro [.int .i64 x4_0.T, .int .i64 x4_0.V] (And.intro (idx_map enc_api_Item e4_0) ?_)
    refine Exists.intro (some (⟨Unit, fun _ => [(.tmp 1, .av (.int .i64 p1)), (.tmp 2, .av (.int .i64 p2)), (.tmp 7, .av (.own 767)), (.tmp 9, .av (.ptr 1026 0)), (.tmp 10, .av (.lst 2 false (List.map enc_api_Item p0))), (.tmp 11, .av (.int .i64 (p0.length : Int))), (.tmp 12, .av (.int .i64 v2_12)), (.tmp 27, .av (.sb ((decide (x4_0.T > (w64 (p1 - p2)))) && (decide (x4_0.T ≤ p1))))), (.box 1026, .box [.int .i64 x4_0.T, .int .i64 x4_0.V]), (.tok 767, .tok 43 2 (List.map enc_api_Item v2_7))], fun _ => True, fun _ => 0⟩, 1000000)) (And.intro ?_ (fun _ _ => ?_))
    · skip
      refine And.intro (fun g2 => ?_) (fun g2 => ?_)
      · skip
        exact Exists.intro [] (Exists.intro [] (Exists.intro () (And.intro trivial (And.intro rfl (And.intro rfl (And.intro rfl (And.intro ff (And.intro rfl (And.intro rfl (And.intro rfl (And.intro (Eq.symm (aR g2 rfl)) (And.intro rfl (And.intro rfl (And.intro rfl trivial))))))))))))))
      · skip
        exact Exists.intro [] (Exists.intro [] (Exists.intro () (And.intro trivial (And.intro rfl (And.intro rfl (And.intro rfl (And.intro ff (And.intro rfl (And.intro rfl (And.intro rfl (And.intro (Eq.symm (aL g2)) (And.intro rfl (And.intro rfl (And.intro rfl trivial))))))))))))))
    · skip
      refine Exists.intro none ?_
      refine And.intro (fun g3 => ?_) (fun g3 => ?_)
      · skip
        replace h := cT g3 h
        obtain ⟨k6_3, h⟩ := ckS h
        refine And.intro (by have hh := (of_decide_eq_true k6_3); (try simp only [fixRows_length, List.length_map, List.length_append, List.length_take, List.length_drop, List.length_set, List.length_replicate, List.length_cons, List.length_nil] at hh); (try simp only [fixRows_length, List.length_map, List.length_append, List.length_take, List.length_drop, List.length_set, List.length_replicate, List.length_cons, List.length_nil]); omega) ?_
        exact Exists.intro [(767, some 1000003)] (Exists.intro [] (Exists.intro (((v2_7 ++ [x4_0]), (w64 (v2_12 + (1:Int)))), m1) (And.intro (hl1 ((v2_7 ++ [x4_0]), (w64 (v2_12 + (1:Int)))) (Option.some.inj h).symm) (And.intro (Nat.lt_succ_self m1) (And.intro rfl (And.intro rfl (And.intro rfl (And.intro ff (And.intro rfl (And.intro rfl (And.intro rfl (And.intro (by first | rfl | (simp only [List.map_append, List.map_cons, List.map_nil, List.map_take, List.map_drop, List.map_set, List.map_replicate]; done) | (simp only [List.map_append, List.map_cons, List.map_nil, List.map_take, List.map_drop, List.map_set, List.map_replicate]; rfl) | (simp only [List.map_append, List.map_cons, List.map_nil, List.map_take, List.map_drop, List.map_set, List.map_replicate, eL, enc_api_Recent, enc_api_Chain, enc_chain_source, enc_made_Tape, enc_law18_leaf]; done) | (simp only [List.map_append, List.map_cons, List.map_nil, List.map_take, List.map_drop, List.map_set, List.map_replicate, eL, enc_api_Recent, enc_api_Chain, enc_chain_source, enc_made_Tape, enc_law18_leaf]; rfl)) trivial))))))))))))
      · skip
        replace h := cF g3 h
        exact Exists.intro [] (Exists.intro [] (Exists.intro ((v2_7, (w64 (v2_12 + (1:Int)))), m1) (And.intro (hl1 (v2_7, (w64 (v2_12 + (1:Int)))) (Option.some.inj h).symm) (And.intro (Nat.lt_succ_self m1) (And.intro rfl (And.intro rfl (And.intro rfl (And.intro ff (And.intro rfl (And.intro rfl (And.intro rfl (And.intro rfl trivial))))))))))))
  · skip
    replace h := cF g1 h
    replace h := popS h hr1
    replace h := Option.some.inj h
    subst h
    exact (And.intro ff (And.intro rfl trivial))

theorem c_law09_RecentRuns (p0 : (List api_Item)) (p1 : Int) (p2 : Int) (r : Bool) (h : law09_RecentRuns p0 p1 p2 = some r) : Contract Try.prog 6 [.lst 2 false (List.map enc_api_Item p0), .int .i64 p1, .int .i64 p2] [] (.sb r) [] := by
  refine contract_of_vcs tab_ok orders_ok Try.func6 Try.call6 (by kernel_rfl) 0 rfl rfl _ rfl ?_
  delta law09_RecentRuns at h
  obtain ⟨y1_1, e1_1, h⟩ := bS h
  obtain ⟨y1_4, e1_4, h⟩ := bS h
  refine Exists.intro _ (Exists.intro _ (And.intro (Contract.wk (c_made_Mod p1 (20:Int) y1_1 e1_1) (And.intro rfl (And.intro rfl trivial))) (And.intro rfl ?_)))
  refine Exists.intro _ (Exists.intro _ (And.intro (Contract.wk (c_made_Int p2 (30:Int) y1_4 e1_4) (And.intro rfl (And.intro rfl trivial))) (And.intro rfl ?_)))
  refine Exists.intro _ (Exists.intro _ (And.intro (Contract.wk (c_recent_New (w64 ((1:Int) + y1_1)) (w64 ((1:Int) + y1_4)) (0:Int)) (And.intro rfl (And.intro rfl (And.intro rfl trivial)))) (And.intro rfl ?_)))
  refine And.intro (fun g1 => ?_) (fun g1 => ?_)
  · skip
    replace h := cT g1 h
    replace h := Option.some.inj h
    subst h
    exact (And.intro rfl trivial)
  · skip
    replace h := cF g1 h
    obtain ⟨y6_2, e6_2, h⟩ := bS h
    refine Exists.intro _ (Exists.intro _ (And.intro (Contract.wk (c_made_Items p0 (w64 ((1:Int) + y1_1)) (60:Int) y6_2 e6_2) (And.intro ff (And.intro rfl (And.intro rfl (And.intro rfl trivial))))) (And.intro rfl ?_)))
    refine Exists.intro [.int .i64 (y6_2.length : Int)] (And.intro (lenS enc_api_Item y6_2) ?_)
    replace h : law09_RecentRuns_l3 y1_1 y1_4 y6_2 ([] : List api_Item) (0:Int) (recent_New (w64 ((1:Int) + y1_1)) (w64 ((1:Int) + y1_4)) (0:Int)).1.W (recent_New (w64 ((1:Int) + y1_1)) (w64 ((1:Int) + y1_4)) (0:Int)).1.Cap (recent_New (w64 ((1:Int) + y1_1)) (w64 ((1:Int) + y1_4)) (0:Int)).1.Now (recent_New (w64 ((1:Int) + y1_1)) (w64 ((1:Int) + y1_4)) (0:Int)).1.Items = some r := h
    delta law09_RecentRuns_l3 at h
    obtain ⟨n1, h⟩ := loopS h
    refine Exists.intro ⟨((List api_Item) × Int × Int × Int × Int × (List api_Item)) × Nat, fun q => [(.tmp 1, .av (.int .i64 (w64 ((1:Int) + y1_1)))), (.tmp 2, .av (.int .i64 (w64 ((1:Int) + y1_4)))), (.tmp 7, .av (.ptr 518 0)), (.tmp 9, .av (.lst 2 false (List.map enc_api_Item q.1.1))), (.tmp 30, .av (.lst 2 false (List.map enc_api_Item y6_2))), (.tmp 31, .av (.int .i64 (y6_2.length : Int))), (.tmp 32, .av (.int .i64 q.1.2.1)), (.box 518, .box [.int .i64 q.1.2.2.1, .int .i64 q.1.2.2.2.1, .int .i64 q.1.2.2.2.2.1, .lst 2 false (List.map enc_api_Item q.1.2.2.2.2.2)])], fun q => loopN (fun (s : ((List api_Item) × Int × Int × Int × Int × (List api_Item))) => law09_RecentRuns_l3s y1_1 y1_4 y6_2 s.1 s.2.1 s.2.2.1 s.2.2.2.1 s.2.2.2.2.1 s.2.2.2.2.2) q.2 q.1 = some r, fun q => q.2⟩ (And.intro (Exists.intro [] (Exists.intro [] (Exists.intro ((([] : List api_Item), (0:Int), (recent_New (w64 ((1:Int) + y1_1)) (w64 ((1:Int) + y1_4)) (0:Int)).1.W, (recent_New (w64 ((1:Int) + y1_1)) (w64 ((1:Int) + y1_4)) (0:Int)).1.Cap, (recent_New (w64 ((1:Int) + y1_1)) (w64 ((1:Int) + y1_4)) (0:Int)).1.Now, (recent_New (w64 ((1:Int) + y1_1)) (w64 ((1:Int) + y1_4)) (0:Int)).1.Items), n1) (And.intro h (And.intro rfl (And.intro rfl (And.intro rfl (And.intro rfl (And.intro ff (And.intro rfl (And.intro rfl (And.intro rfl (And.intro rfl (And.intro rfl (And.intro rfl (And.intro ff (And.intro rfl trivial))))))))))))))))) ?_)
    clear h
    refine fun q h => ?_
    obtain ⟨⟨v3_9, v3_32, v3_b518_0, v3_b518_1, v3_b518_2, v3_b518_3⟩, n1⟩ := q
    obtain ⟨m1, x1, hm1, h, hl1, hr1⟩ := loopN_step h
    replace hm1 : n1 = m1 + 1 := hm1
    subst hm1
    replace h : law09_RecentRuns_l3s y1_1 y1_4 y6_2 v3_9 v3_32 v3_b518_0 v3_b518_1 v3_b518_2 v3_b518_3 = some x1 := h
    delta law09_RecentRuns_l3s at h
    refine And.intro (fun g2 => ?_) (fun g2 => ?_)
    · skip
      replace h := cT g2 h
      refine Exists.intro none ?_
      obtain ⟨x8_0, e8_0, h⟩ := bS h
      refine Exists.intro [.int .i64 x8_0.T, .int .i64 x8_0.V] (And.intro (idx_map enc_api_Item e8_0) ?_)
      obtain ⟨y9_3, e9_3, h⟩ := bS h
      refine Exists.intro _ (Exists.intro _ (And.intro (Contract.wk (c_recent_Advance (api_Recent.mk v3_b518_0 v3_b518_1 v3_b518_2 v3_b518_3) x8_0.T y9_3 e9_3) (And.intro rfl (And.intro rfl (And.intro rfl (And.intro ff (And.intro rfl (And.intro rfl trivial))))))) (And.intro rfl ?_)))
      refine And.intro (fun g3 => ?_) (fun g3 => ?_)
      · skip
        replace h := cT g3 h
        replace h := retS h hr1
        subst h
        exact (And.intro rfl trivial)
      · skip
        replace h := cF g3 h
        obtain ⟨y12_4, e12_4, h⟩ := bS h
        refine Exists.intro _ (Exists.intro _ (And.intro (Contract.wk (c_made_Live v3_9 x8_0.T (w64 ((1:Int) + y1_1)) y12_4 e12_4) (And.intro ff (And.intro rfl (And.intro rfl (And.intro rfl trivial))))) (And.intro rfl ?_)))
        obtain ⟨y13_3, e13_3, h⟩ := bS h
        refine Exists.intro _ (Exists.intro _ (And.intro (Contract.wk (c_recent_Add y9_3.1 x8_0.V y13_3 e13_3) (And.intro rfl (And.intro rfl (And.intro rfl (And.intro ff (And.intro rfl (And.intro rfl trivial))))))) (And.intro rfl ?_)))
        refine Exists.intro (some (⟨Unit, fun _ => [(.tmp 1, .av (.int .i64 (w64 ((1:Int) + y1_1)))), (.tmp 2, .av (.int .i64 (w64 ((1:Int) + y1_4)))), (.tmp 7, .av (.ptr 518 0)), (.tmp 9, .av (.lst 2 false (List.map enc_api_Item y12_4))), (.tmp 11, .av (.ptr 1794 0)), (.tmp 12, .av (.ptr 2823 0)), (.tmp 13, .av (.int .i64 y13_3.2)), (.tmp 30, .av (.lst 2 false (List.map enc_api_Item y6_2))), (.tmp 31, .av (.int .i64 (y6_2.length : Int))), (.tmp 32, .av (.int .i64 v3_32)), (.tmp 71, .av (.sb ((!((y13_3.2 == (5:Int)) == ((y12_4.length : Int) == (w64 ((1:Int) + y1_4))))) || ((y13_3.2 != (0:Int)) && (y13_3.2 != (5:Int)))))), (.box 518, .box [.int .i64 y9_3.1.W, .int .i64 y9_3.1.Cap, .int .i64 y9_3.1.Now, .lst 2 false (List.map enc_api_Item y9_3.1.Items)]), (.box 1794, .box [.int .i64 x8_0.T, .int .i64 x8_0.V]), (.box 2823, .box [.int .i64 y13_3.1.W, .int .i64 y13_3.1.Cap, .int .i64 y13_3.1.Now, .lst 2 false (List.map enc_api_Item y13_3.1.Items)])], fun _ => True, fun _ => 0⟩, 1000000)) (And.intro ?_ (fun _ _ => ?_))
        · skip
          refine Exists.intro [.int .i64 (y12_4.length : Int)] (And.intro (lenS enc_api_Item y12_4) ?_)
          refine And.intro (fun g4 => ?_) (fun g4 => ?_)
          · skip
            refine And.intro (fun g5 => ?_) (fun g5 => ?_)
            · skip
              exact Exists.intro [] (Exists.intro [] (Exists.intro () (And.intro trivial (And.intro rfl (And.intro rfl (And.intro rfl (And.intro ff (And.intro rfl (And.intro rfl (And.intro ff (And.intro rfl (And.intro rfl (And.intro rfl (And.intro (Eq.symm (oR g4 (aR g5 rfl))) (And.intro rfl (And.intro rfl (And.intro rfl (And.intro ff (And.intro rfl (And.intro rfl (And.intro rfl (And.intro rfl (And.intro rfl (And.intro rfl (And.intro ff (And.intro rfl trivial))))))))))))))))))))))))))
            · skip
              exact Exists.intro [] (Exists.intro [] (Exists.intro () (And.intro trivial (And.intro rfl (And.intro rfl (And.intro rfl (And.intro ff (And.intro rfl (And.intro rfl (And.intro ff (And.intro rfl (And.intro rfl (And.intro rfl (And.intro (Eq.symm (oR g4 (aL g5))) (And.intro rfl (And.intro rfl (And.intro rfl (And.intro ff (And.intro rfl (And.intro rfl (And.intro rfl (And.intro rfl (And.intro rfl (And.intro rfl (And.intro ff (And.intro rfl trivial))))))))))))))))))))))))))
          · skip
            exact Exists.intro [] (Exists.intro [] (Exists.intro () (And.intro trivial (And.intro rfl (And.intro rfl (And.intro rfl (And.intro ff (And.intro rfl (And.intro rfl (And.intro ff (And.intro rfl (And.intro rfl (And.intro rfl (And.intro (Eq.symm (oL g4)) (And.intro rfl (And.intro rfl (And.intro rfl (And.intro ff (And.intro rfl (And.intro rfl (And.intro rfl (And.intro rfl (And.intro rfl (And.intro rfl (And.intro ff (And.intro rfl trivial))))))))))))))))))))))))))
        · skip
          refine And.intro (fun g6 => ?_) (fun g6 => ?_)
          · skip
            replace h := cT g6 h
            replace h := retS h hr1
            subst h
            exact (And.intro rfl trivial)
          · skip
            replace h := cF g6 h
            refine Exists.intro (some (⟨(List api_Item) × Int × Int × Int × (List api_Item), fun q => [(.tmp 1, .av (.int .i64 (w64 ((1:Int) + y1_1)))), (.tmp 2, .av (.int .i64 (w64 ((1:Int) + y1_4)))), (.tmp 7, .av (.ptr 518 0)), (.tmp 9, .av (.lst 2 false (List.map enc_api_Item q.1))), (.tmp 30, .av (.lst 2 false (List.map enc_api_Item y6_2))), (.tmp 31, .av (.int .i64 (y6_2.length : Int))), (.tmp 32, .av (.int .i64 v3_32)), (.box 518, .box [.int .i64 q.2.1, .int .i64 q.2.2.1, .int .i64 q.2.2.2.1, .lst 2 false (List.map enc_api_Item q.2.2.2.2)])], fun q => law09_RecentRuns_j8 v3_32 q.1 q.2.1 q.2.2.1 q.2.2.2.1 q.2.2.2.2 = some x1, fun _ => 0⟩, 2000000)) (And.intro ?_ ?_)
            · skip
              refine And.intro (fun g7 => ?_) (fun g7 => ?_)
              · skip
                replace h := cT g7 h
                obtain ⟨k17_3, h⟩ := ckS h
                obtain ⟨k17_6, h⟩ := ckS h
                refine And.intro (by have hh := (of_decide_eq_true k17_3); (try simp only [fixRows_length, List.length_map, List.length_append, List.length_take, List.length_drop, List.length_set, List.length_replicate, List.length_cons, List.length_nil] at hh); (try simp only [fixRows_length, List.length_map, List.length_append, List.length_take, List.length_drop, List.length_set, List.length_replicate, List.length_cons, List.length_nil]); omega) ?_
                refine And.intro (by have hh := (of_decide_eq_true k17_6); (try simp only [fixRows_length, List.length_map, List.length_append, List.length_take, List.length_drop, List.length_set, List.length_replicate, List.length_cons, List.length_nil] at hh); (try simp only [fixRows_length, List.length_map, List.length_append, List.length_take, List.length_drop, List.length_set, List.length_replicate, List.length_cons, List.length_nil]); omega) ?_
                exact Exists.intro [] (Exists.intro [1000262] (Exists.intro (((([] : List api_Item) ++ y12_4) ++ [x8_0]), y13_3.1.W, y13_3.1.Cap, y13_3.1.Now, y13_3.1.Items) (And.intro h (And.intro rfl (And.intro rfl (And.intro rfl (And.intro ff (And.intro (by first | rfl | (simp only [List.map_append, List.map_cons, List.map_nil, List.map_take, List.map_drop, List.map_set, List.map_replicate]; done) | (simp only [List.map_append, List.map_cons, List.map_nil, List.map_take, List.map_drop, List.map_set, List.map_replicate]; rfl) | (simp only [List.map_append, List.map_cons, List.map_nil, List.map_take, List.map_drop, List.map_set, List.map_replicate, eL, enc_api_Recent, enc_api_Chain, enc_chain_source, enc_made_Tape, enc_law18_leaf]; done) | (simp only [List.map_append, List.map_cons, List.map_nil, List.map_take, List.map_drop, List.map_set, List.map_replicate, eL, enc_api_Recent, enc_api_Chain, enc_chain_source, enc_made_Tape, enc_law18_leaf]; rfl)) (And.intro ff (And.intro rfl (And.intro rfl (And.intro rfl (And.intro rfl (And.intro rfl (And.intro rfl (And.intro ff (And.intro rfl trivial)))))))))))))))))
              · skip
                replace h := cF g7 h
                exact Exists.intro [] (Exists.intro [] (Exists.intro (y12_4, y9_3.1.W, y9_3.1.Cap, y9_3.1.Now, y9_3.1.Items) (And.intro h (And.intro rfl (And.intro rfl (And.intro rfl (And.intro ff (And.intro rfl (And.intro ff (And.intro rfl (And.intro rfl (And.intro rfl (And.intro rfl (And.intro rfl (And.intro rfl (And.intro ff (And.intro rfl trivial)))))))))))))))))
            · skip
              clear h
              refine fun q h => ?_
              obtain ⟨j8_9, j8_b518_0, j8_b518_1, j8_b518_2, j8_b518_3⟩ := q
              replace h : law09_RecentRuns_j8 v3_32 j8_9 j8_b518_0 j8_b518_1 j8_b518_2 j8_b518_3 = some x1 := h
              delta law09_RecentRuns_j8 at h
              obtain ⟨y18_3, e18_3, h⟩ := bS h
              refine Exists.intro _ (Exists.intro _ (And.intro (Contract.wk (c_ref05_SameItems j8_b518_3 j8_9 y18_3 e18_3) (And.intro ff (And.intro rfl (And.intro ff (And.intro rfl trivial))))) (And.intro rfl ?_)))
              refine And.intro (fun g8 => ?_) (fun g8 => ?_)
              · skip
                replace h := cT g8 h
                replace h := retS h hr1
                subst h
                exact (And.intro rfl trivial)
              · skip
                replace h := cF g8 h
                exact Exists.intro [] (Exists.intro [] (Exists.intro ((j8_9, (w64 (v3_32 + (1:Int))), j8_b518_0, j8_b518_1, j8_b518_2, j8_b518_3), m1) (And.intro (hl1 (j8_9, (w64 (v3_32 + (1:Int))), j8_b518_0, j8_b518_1, j8_b518_2, j8_b518_3) (Option.some.inj h).symm) (And.intro (Nat.lt_succ_self m1) (And.intro rfl (And.intro rfl (And.intro rfl (And.intro ff (And.intro rfl (And.intro ff (And.intro rfl (And.intro rfl (And.intro rfl (And.intro rfl (And.intro rfl (And.intro rfl (And.intro ff (And.intro rfl trivial))))))))))))))))))
    · skip
      replace h := cF g2 h
      replace h := popS h hr1
      obtain ⟨y21_0, e21_0, h⟩ := bS h
      refine Exists.intro _ (Exists.intro _ (And.intro (Contract.wk (c_law09_awake y21_0 e21_0) trivial) (And.intro rfl ?_)))
      replace h := Option.some.inj h
      subst h
      exact (And.intro rfl trivial)

end Go.Proofs.Ytfnkbbeeilpiiaa
