/- The contracts: each function of the program does what its function on plain data says. Made by program. -/
import Derived.Test.YtpclnmpmammlfaaTab
import Derived.Test.YtpclnmpmammlfaaWin
import Derived.Test.YtpclnmpmammlfaaWalk
import Derived.Test.YtpclnmpmammlfaaSrt
set_option linter.unusedVariables false
set_option linter.unusedSimpArgs false
set_option linter.unnecessarySimpa false
set_option maxHeartbeats 4000000
set_option maxRecDepth 20000
namespace Go.Proofs.Ytpclnmpmammlfaa
open Go.Vc Go.Dec Go.Win

theorem c_math_bits_Len64 (p0 : Int) (r : Int) (h : math_bits_Len64 p0 = some r) : Contract Try.prog 118 [.int .u64 p0] [] (.int .i64 r) [] := by
  unfold math_bits_Len64 at h
  obtain ⟨k, h⟩ := ckS h
  obtain ⟨k1, k2⟩ := of_decide_eq_true k
  cases h
  exact calls_contract1 Try.call118 fun w => walk_Len64 p0 w k1 k2

theorem c_made_Mod (p0 : Int) (p1 : Int) (r : Int) (h : made_Mod p0 p1 = some r) : Contract Try.prog 21 [.int .i64 p0, .int .i64 p1] [] (.int .i64 r) [] := by
  refine contract_of_vcs tab_ok orders_ok Try.func21 Try.call21 (by kernel_rfl) 0 rfl rfl _ rfl ?_
  delta made_Mod at h
  refine Exists.intro none ?_
  refine Exists.intro none ?_
  obtain ⟨k1_2, h⟩ := ckS h
  refine And.intro (of_decide_eq_true k1_2) ?_
  refine Exists.intro none ?_
  refine And.intro (fun g1 => ?_) (fun g1 => ?_)
  · skip
    replace h := cT g1 h
    refine Exists.intro none ?_
    replace h := Option.some.inj h
    first | subst h | rw [← h]
    exact (And.intro rfl trivial)
  · skip
    replace h := cF g1 h
    refine Exists.intro none ?_
    replace h := Option.some.inj h
    first | subst h | rw [← h]
    exact (And.intro rfl trivial)

theorem c_made_Value (p0 : Int) (r : Int) (h : made_Value p0 = some r) : Contract Try.prog 28 [.int .i64 p0] [] (.int .i64 r) [] := by
  refine contract_of_vcs tab_ok orders_ok Try.func28 Try.call28 (by kernel_rfl) 0 rfl rfl _ rfl ?_
  delta made_Value at h
  refine Exists.intro none ?_
  refine Exists.intro none ?_
  refine And.intro (by decide) ?_
  refine Exists.intro none ?_
  obtain ⟨y2_1, e2_1, h⟩ := bS h
  refine Exists.intro (CK.plain _ _) (And.intro (Contract.wk (c_made_Mod p0 (8:Int) y2_1 e2_1) (And.intro rfl (And.intro rfl trivial))) (And.intro rfl ?_))
  refine Exists.intro none ?_
  refine And.intro (fun g1 => ?_) (fun g1 => ?_)
  · skip
    replace h := cT g1 h
    refine Exists.intro none ?_
    obtain ⟨y4_1, e4_1, h⟩ := bS h
    refine Exists.intro (CK.plain _ _) (And.intro (Contract.wk (c_made_Mod (w64 (Int.tdiv p0 (8:Int))) (8193:Int) y4_1 e4_1) (And.intro rfl (And.intro rfl trivial))) (And.intro rfl ?_))
    replace h := Option.some.inj h
    first | subst h | rw [← h]
    exact (And.intro rfl trivial)
  · skip
    replace h := cF g1 h
    refine Exists.intro none ?_
    refine And.intro (fun g2 => ?_) (fun g2 => ?_)
    · skip
      replace h := cT g2 h
      refine Exists.intro none ?_
      obtain ⟨y6_1, e6_1, h⟩ := bS h
      refine Exists.intro (CK.plain _ _) (And.intro (Contract.wk (c_made_Mod (w64 (Int.tdiv p0 (8:Int))) (2:Int) y6_1 e6_1) (And.intro rfl (And.intro rfl trivial))) (And.intro rfl ?_))
      replace h := Option.some.inj h
      first | subst h | rw [← h]
      exact (And.intro rfl trivial)
    · skip
      replace h := cF g2 h
      refine Exists.intro none ?_
      obtain ⟨y7_1, e7_1, h⟩ := bS h
      refine Exists.intro (CK.plain _ _) (And.intro (Contract.wk (c_made_Mod (w64 (Int.tdiv p0 (8:Int))) (13:Int) y7_1 e7_1) (And.intro rfl (And.intro rfl trivial))) (And.intro rfl ?_))
      replace h := Option.some.inj h
      first | subst h | rw [← h]
      exact (And.intro rfl trivial)

theorem c_ref08_Rank (p0 : (List api_Item)) (p1 : Int) (r : Int) (h : ref08_Rank p0 p1 = some r) : Contract Try.prog 31 [.lst 2 false (List.map enc_api_Item p0), .int .i64 p1] [] (.int .i64 r) [] := by
  refine contract_of_vcs tab_ok orders_ok Try.func31 Try.call31 (by kernel_rfl) 0 rfl rfl _ rfl ?_
  delta ref08_Rank at h
  refine Exists.intro none ?_
  refine Exists.intro none ?_
  refine Exists.intro none ?_
  refine Exists.intro [.int .i64 (p0.length : Int)] (And.intro (lenS enc_api_Item p0) ?_)
  replace h : ref08_Rank_l2 p0 p1 (0:Int) (0:Int) = some r := h
  delta ref08_Rank_l2 at h
  obtain ⟨n1, h⟩ := loopS h
  refine Exists.intro ⟨(Int × Int) × Nat, fun q => [(.tmp 1, .av (.int .i64 p1)), (.tmp 5, .av (.int .i64 q.1.1)), (.tmp 8, .av (.lst 2 false (List.map enc_api_Item p0))), (.tmp 9, .av (.int .i64 (p0.length : Int))), (.tmp 10, .av (.int .i64 q.1.2))], fun q => loopN (fun (s : (Int × Int)) => ref08_Rank_l2s p0 p1 s.1 s.2) q.2 q.1 = some r, fun q => q.2⟩ (And.intro (Exists.intro [] (Exists.intro [] (Exists.intro (((0:Int), (0:Int)), n1) (And.intro h (And.intro rfl (And.intro rfl (And.intro rfl (And.intro ff (And.intro rfl (And.intro rfl (And.intro rfl trivial))))))))))) ?_)
  clear h
  refine fun q h => ?_
  obtain ⟨⟨v2_5, v2_10⟩, n1⟩ := q
  obtain ⟨m1, x1, hm1, h, hl1, hr1⟩ := loopN_step h
  replace hm1 : n1 = m1 + 1 := hm1
  subst hm1
  replace h : ref08_Rank_l2s p0 p1 v2_5 v2_10 = some x1 := h
  delta ref08_Rank_l2s at h
  refine Exists.intro none ?_
  refine And.intro (fun g1 => ?_) (fun g1 => ?_)
  · skip
    replace h := cT g1 h
    refine Exists.intro none ?_
    refine Exists.intro none ?_
    obtain ⟨x4_0, e4_0, h⟩ := bS h
    refine Exists.intro [.int .i64 x4_0.T, .int .i64 x4_0.V] (And.intro (idx_map enc_api_Item e4_0) ?_)
    refine Exists.intro none ?_
    refine Exists.intro none ?_
    refine And.intro (fun g2 => ?_) (fun g2 => ?_)
    · skip
      replace h := cT g2 h
      refine Exists.intro none ?_
      refine Exists.intro none ?_
      exact Exists.intro [] (Exists.intro [] (Exists.intro (((w64 (v2_5 + (1:Int))), (w64 (v2_10 + (1:Int)))), m1) (And.intro (hl1 ((w64 (v2_5 + (1:Int))), (w64 (v2_10 + (1:Int)))) (Option.some.inj h).symm) (And.intro (Nat.lt_succ_self m1) (And.intro rfl (And.intro rfl (And.intro rfl (And.intro ff (And.intro rfl (And.intro rfl (And.intro rfl trivial)))))))))))
    · skip
      replace h := cF g2 h
      refine Exists.intro none ?_
      exact Exists.intro [] (Exists.intro [] (Exists.intro ((v2_5, (w64 (v2_10 + (1:Int)))), m1) (And.intro (hl1 (v2_5, (w64 (v2_10 + (1:Int)))) (Option.some.inj h).symm) (And.intro (Nat.lt_succ_self m1) (And.intro rfl (And.intro rfl (And.intro rfl (And.intro ff (And.intro rfl (And.intro rfl (And.intro rfl trivial)))))))))))
  · skip
    replace h := cF g1 h
    replace h := popS h hr1
    refine Exists.intro none ?_
    replace h := Option.some.inj h
    first | subst h | rw [← h]
    exact (And.intro rfl trivial)

theorem c_ratio_Of' (p0 : Int) (r : api_Ratio) (h : ratio_Of p0 = r) : Contract Try.prog 78 [.int .i64 p0] [] (.agg [.int .i64 r.Num, .int .i64 r.Den]) [] := by
  refine contract_of_vcs tab_ok orders_ok Try.func78 Try.call78 (by kernel_rfl) 0 rfl rfl _ rfl ?_
  delta ratio_Of at h
  refine Exists.intro none ?_
  refine Exists.intro none ?_
  first | subst h | rw [← h]
  exact (And.intro rfl (And.intro rfl trivial))
theorem c_ratio_Of (p0 : Int) : Contract Try.prog 78 [.int .i64 p0] [] (.agg [.int .i64 (ratio_Of p0).Num, .int .i64 (ratio_Of p0).Den]) [] := c_ratio_Of' p0 (ratio_Of p0) rfl

theorem c_num_size' (p0 : Int) (r : Int) (h : num_size p0 = r) : Contract Try.prog 119 [.int .i64 p0] [] (.int .u64 r) [] := by
  refine contract_of_vcs tab_ok orders_ok Try.func119 Try.call119 (by kernel_rfl) 0 rfl rfl _ rfl ?_
  delta num_size at h
  refine Exists.intro none ?_
  refine Exists.intro none ?_
  refine And.intro (fun g1 => ?_) (fun g1 => ?_)
  · skip
    replace h := cT g1 h
    refine Exists.intro none ?_
    first | subst h | rw [← h]
    exact (And.intro rfl trivial)
  · skip
    replace h := cF g1 h
    refine Exists.intro none ?_
    first | subst h | rw [← h]
    exact (And.intro rfl trivial)
theorem c_num_size (p0 : Int) : Contract Try.prog 119 [.int .i64 p0] [] (.int .u64 (num_size p0)) [] := c_num_size' p0 (num_size p0) rfl

theorem c_math_bits_Mul64' (p0 : Int) (p1 : Int) (r : (Int × Int)) (h : math_bits_Mul64 p0 p1 = r) : Contract Try.prog 93 [.int .u64 p0, .int .u64 p1] [] (.tup [.int .u64 r.1, .int .u64 r.2]) [] := by
  refine contract_of_vcs tab_ok orders_ok Try.func93 Try.call93 (by kernel_rfl) 0 rfl rfl _ rfl ?_
  delta math_bits_Mul64 at h
  refine Exists.intro none ?_
  refine Exists.intro none ?_
  refine Exists.intro none ?_
  refine And.intro (by decide) ?_
  refine Exists.intro none ?_
  refine Exists.intro none ?_
  refine And.intro (by decide) ?_
  refine Exists.intro none ?_
  refine Exists.intro none ?_
  refine And.intro (by decide) ?_
  refine Exists.intro none ?_
  refine Exists.intro none ?_
  refine And.intro (by decide) ?_
  refine Exists.intro none ?_
  refine Exists.intro none ?_
  refine And.intro (by decide) ?_
  refine Exists.intro none ?_
  first | subst h | rw [← h]
  exact (And.intro rfl (And.intro rfl trivial))
theorem c_math_bits_Mul64 (p0 : Int) (p1 : Int) : Contract Try.prog 93 [.int .u64 p0, .int .u64 p1] [] (.tup [.int .u64 (math_bits_Mul64 p0 p1).1, .int .u64 (math_bits_Mul64 p0 p1).2]) [] := c_math_bits_Mul64' p0 p1 (math_bits_Mul64 p0 p1) rfl

theorem c_num_Mul' (p0 : Int) (p1 : Int) (r : (Int × Bool)) (h : num_Mul p0 p1 = r) : Contract Try.prog 86 [.int .i64 p0, .int .i64 p1] [] (.tup [.int .i64 r.1, .sb r.2]) [] := by
  refine contract_of_vcs tab_ok orders_ok Try.func86 Try.call86 (by kernel_rfl) 0 rfl rfl _ rfl ?_
  delta num_Mul at h
  refine Exists.intro none ?_
  refine Exists.intro none ?_
  refine Exists.intro (CK.plain _ _) (And.intro (Contract.wk (c_num_size p0) (And.intro rfl trivial)) (And.intro rfl ?_))
  refine Exists.intro (CK.plain _ _) (And.intro (Contract.wk (c_num_size p1) (And.intro rfl trivial)) (And.intro rfl ?_))
  refine Exists.intro (CK.plain _ _) (And.intro (Contract.wk (c_math_bits_Mul64 (num_size p0) (num_size p1)) (And.intro rfl (And.intro rfl trivial))) (And.intro rfl ?_))
  refine Exists.intro none ?_
  refine Exists.intro none ?_
  refine Exists.intro none ?_
  refine Exists.intro (some (⟨Int, fun j1_9 => [(.tmp 6, .av (.int .u64 (math_bits_Mul64 (num_size p0) (num_size p1)).1)), (.tmp 7, .av (.int .u64 (math_bits_Mul64 (num_size p0) (num_size p1)).2)), (.tmp 8, .av (.sb (!((decide (p0 < (0:Int))) == (decide (p1 < (0:Int))))))), (.tmp 9, .av (.int .u64 j1_9))], fun j1_9 => num_Mul_j1 p0 p1 (math_bits_Mul64 (num_size p0) (num_size p1)) j1_9 = r, fun _ => 0⟩, 1000000)) (And.intro ?_ ?_)
  · skip
    refine And.intro (fun g1 => ?_) (fun g1 => ?_)
    · skip
      replace h := cT g1 h
      refine Exists.intro none ?_
      exact Exists.intro [] (Exists.intro [] (Exists.intro (wu64 ((9223372036854775807:Int) + (1:Int))) (And.intro h (And.intro rfl (And.intro rfl (And.intro rfl (And.intro rfl (And.intro rfl trivial))))))))
    · skip
      replace h := cF g1 h
      exact Exists.intro [] (Exists.intro [] (Exists.intro (9223372036854775807:Int) (And.intro h (And.intro rfl (And.intro rfl (And.intro rfl (And.intro rfl (And.intro rfl trivial))))))))
  · skip
    clear h
    refine fun j1_9 h => ?_
    replace h : num_Mul_j1 p0 p1 (math_bits_Mul64 (num_size p0) (num_size p1)) j1_9 = r := h
    delta num_Mul_j1 at h
    refine Exists.intro none ?_
    refine Exists.intro none ?_
    refine And.intro (fun g2 => ?_) (fun g2 => ?_)
    · skip
      refine And.intro (fun g3 => ?_) (fun g3 => ?_)
      · skip
        replace h := cT (oR g2 g3) h
        refine Exists.intro none ?_
        first | subst h | rw [← h]
        exact (And.intro rfl (And.intro rfl trivial))
      · skip
        replace h := cF (oR g2 g3) h
        refine Exists.intro none ?_
        refine And.intro (fun g4 => ?_) (fun g4 => ?_)
        · skip
          replace h := cT g4 h
          refine Exists.intro none ?_
          first | subst h | rw [← h]
          exact (And.intro rfl (And.intro rfl trivial))
        · skip
          replace h := cF g4 h
          refine Exists.intro none ?_
          first | subst h | rw [← h]
          exact (And.intro rfl (And.intro rfl trivial))
    · skip
      replace h := cT (oL g2) h
      refine Exists.intro none ?_
      first | subst h | rw [← h]
      exact (And.intro rfl (And.intro rfl trivial))
theorem c_num_Mul (p0 : Int) (p1 : Int) : Contract Try.prog 86 [.int .i64 p0, .int .i64 p1] [] (.tup [.int .i64 (num_Mul p0 p1).1, .sb (num_Mul p0 p1).2]) [] := c_num_Mul' p0 p1 (num_Mul p0 p1) rfl

theorem c_num_Add' (p0 : Int) (p1 : Int) (r : (Int × Bool)) (h : num_Add p0 p1 = r) : Contract Try.prog 87 [.int .i64 p0, .int .i64 p1] [] (.tup [.int .i64 r.1, .sb r.2]) [] := by
  refine contract_of_vcs tab_ok orders_ok Try.func87 Try.call87 (by kernel_rfl) 0 rfl rfl _ rfl ?_
  delta num_Add at h
  refine Exists.intro none ?_
  refine Exists.intro none ?_
  refine Exists.intro none ?_
  refine Exists.intro (some (⟨Unit, fun _ => [(.tmp 6, .av (.int .i64 (w64 (p0 + p1)))), (.tmp 21, .av (.sb (((decide (p0 ≥ (0:Int))) == (decide (p1 ≥ (0:Int)))) && (!((decide ((w64 (p0 + p1)) ≥ (0:Int))) == (decide (p0 ≥ (0:Int))))))))], fun _ => True, fun _ => 0⟩, 1000000)) (And.intro ?_ (fun _ _ => ?_))
  · skip
    refine And.intro (fun g1 => ?_) (fun g1 => ?_)
    · skip
      exact Exists.intro [] (Exists.intro [] (Exists.intro () (And.intro trivial (And.intro rfl (And.intro rfl (And.intro (Eq.symm (aR g1 rfl)) trivial))))))
    · skip
      exact Exists.intro [] (Exists.intro [] (Exists.intro () (And.intro trivial (And.intro rfl (And.intro rfl (And.intro (Eq.symm (aL g1)) trivial))))))
  · skip
    refine And.intro (fun g2 => ?_) (fun g2 => ?_)
    · skip
      replace h := cT g2 h
      refine Exists.intro none ?_
      first | subst h | rw [← h]
      exact (And.intro rfl (And.intro rfl trivial))
    · skip
      replace h := cF g2 h
      refine Exists.intro none ?_
      first | subst h | rw [← h]
      exact (And.intro rfl (And.intro rfl trivial))
theorem c_num_Add (p0 : Int) (p1 : Int) : Contract Try.prog 87 [.int .i64 p0, .int .i64 p1] [] (.tup [.int .i64 (num_Add p0 p1).1, .sb (num_Add p0 p1).2]) [] := c_num_Add' p0 p1 (num_Add p0 p1) rfl

theorem c_exact_Squares (p0 : (List api_Item)) (r : (Int × Bool)) (h : exact_Squares p0 = some r) : Contract Try.prog 58 [.lst 2 false (List.map enc_api_Item p0)] [] (.tup [.int .i64 r.1, .sb r.2]) [] := by
  refine contract_of_vcs tab_ok orders_ok Try.func58 Try.call58 (by kernel_rfl) 0 rfl rfl _ rfl ?_
  delta exact_Squares at h
  refine Exists.intro none ?_
  refine Exists.intro none ?_
  refine Exists.intro none ?_
  refine Exists.intro [.int .i64 (p0.length : Int)] (And.intro (lenS enc_api_Item p0) ?_)
  replace h : exact_Squares_l2 p0 (0:Int) (0:Int) = some r := h
  delta exact_Squares_l2 at h
  obtain ⟨n1, h⟩ := loopS h
  refine Exists.intro ⟨(Int × Int) × Nat, fun q => [(.tmp 4, .av (.int .i64 q.1.1)), (.tmp 9, .av (.lst 2 false (List.map enc_api_Item p0))), (.tmp 10, .av (.int .i64 (p0.length : Int))), (.tmp 11, .av (.int .i64 q.1.2))], fun q => loopN (fun (s : (Int × Int)) => exact_Squares_l2s p0 s.1 s.2) q.2 q.1 = some r, fun q => q.2⟩ (And.intro (Exists.intro [] (Exists.intro [] (Exists.intro (((0:Int), (0:Int)), n1) (And.intro h (And.intro rfl (And.intro rfl (And.intro ff (And.intro rfl (And.intro rfl (And.intro rfl trivial)))))))))) ?_)
  clear h
  refine fun q h => ?_
  obtain ⟨⟨v2_4, v2_11⟩, n1⟩ := q
  obtain ⟨m1, x1, hm1, h, hl1, hr1⟩ := loopN_step h
  replace hm1 : n1 = m1 + 1 := hm1
  subst hm1
  replace h : exact_Squares_l2s p0 v2_4 v2_11 = some x1 := h
  delta exact_Squares_l2s at h
  refine Exists.intro none ?_
  refine And.intro (fun g1 => ?_) (fun g1 => ?_)
  · skip
    replace h := cT g1 h
    refine Exists.intro none ?_
    obtain ⟨x4_0, e4_0, h⟩ := bS h
    refine Exists.intro [.int .i64 x4_0.T, .int .i64 x4_0.V] (And.intro (idx_map enc_api_Item e4_0) ?_)
    refine Exists.intro none ?_
    refine Exists.intro (CK.plain _ _) (And.intro (Contract.wk (c_num_Mul x4_0.V x4_0.V) (And.intro rfl (And.intro rfl trivial))) (And.intro rfl ?_))
    refine Exists.intro none ?_
    refine And.intro (fun g2 => ?_) (fun g2 => ?_)
    · skip
      replace h := cT g2 h
      refine Exists.intro none ?_
      replace h := retS h hr1
      first | subst h | rw [← h]
      exact (And.intro rfl (And.intro rfl trivial))
    · skip
      replace h := cF g2 h
      refine Exists.intro none ?_
      refine Exists.intro (CK.plain _ _) (And.intro (Contract.wk (c_num_Add v2_4 (num_Mul x4_0.V x4_0.V).1) (And.intro rfl (And.intro rfl trivial))) (And.intro rfl ?_))
      refine Exists.intro none ?_
      refine And.intro (fun g3 => ?_) (fun g3 => ?_)
      · skip
        replace h := cT g3 h
        refine Exists.intro none ?_
        replace h := retS h hr1
        first | subst h | rw [← h]
        exact (And.intro rfl (And.intro rfl trivial))
      · skip
        replace h := cF g3 h
        refine Exists.intro none ?_
        exact Exists.intro [] (Exists.intro [] (Exists.intro (((num_Add v2_4 (num_Mul x4_0.V x4_0.V).1).1, (w64 (v2_11 + (1:Int)))), m1) (And.intro (hl1 ((num_Add v2_4 (num_Mul x4_0.V x4_0.V).1).1, (w64 (v2_11 + (1:Int)))) (Option.some.inj h).symm) (And.intro (Nat.lt_succ_self m1) (And.intro rfl (And.intro rfl (And.intro ff (And.intro rfl (And.intro rfl (And.intro rfl trivial))))))))))
  · skip
    replace h := cF g1 h
    replace h := popS h hr1
    refine Exists.intro none ?_
    replace h := Option.some.inj h
    first | subst h | rw [← h]
    exact (And.intro rfl (And.intro rfl trivial))

theorem c_exact_Count' (p0 : (List api_Item)) (r : Int) (h : exact_Count p0 = r) : Contract Try.prog 59 [.lst 2 false (List.map enc_api_Item p0)] [] (.int .i64 r) [] := by
  refine contract_of_vcs tab_ok orders_ok Try.func59 Try.call59 (by kernel_rfl) 0 rfl rfl _ rfl ?_
  delta exact_Count at h
  refine Exists.intro none ?_
  refine Exists.intro none ?_
  refine Exists.intro [.int .i64 (p0.length : Int)] (And.intro (lenS enc_api_Item p0) ?_)
  first | subst h | rw [← h]
  exact (And.intro rfl trivial)
theorem c_exact_Count (p0 : (List api_Item)) : Contract Try.prog 59 [.lst 2 false (List.map enc_api_Item p0)] [] (.int .i64 (exact_Count p0)) [] := c_exact_Count' p0 (exact_Count p0) rfl

theorem c_wide_Product' (p0 : Int) (p1 : Int) (r : api_Wide) (h : wide_Product p0 p1 = r) : Contract Try.prog 61 [.int .u64 p0, .int .u64 p1] [] (.agg [.int .u64 r.Hi, .int .u64 r.Lo]) [] := by
  refine contract_of_vcs tab_ok orders_ok Try.func61 Try.call61 (by kernel_rfl) 0 rfl rfl _ rfl ?_
  delta wide_Product at h
  refine Exists.intro none ?_
  refine Exists.intro none ?_
  refine Exists.intro (CK.plain _ _) (And.intro (Contract.wk (c_math_bits_Mul64 p0 p1) (And.intro rfl (And.intro rfl trivial))) (And.intro rfl ?_))
  refine Exists.intro none ?_
  first | subst h | rw [← h]
  exact (And.intro rfl (And.intro rfl trivial))
theorem c_wide_Product (p0 : Int) (p1 : Int) : Contract Try.prog 61 [.int .u64 p0, .int .u64 p1] [] (.agg [.int .u64 (wide_Product p0 p1).Hi, .int .u64 (wide_Product p0 p1).Lo]) [] := c_wide_Product' p0 p1 (wide_Product p0 p1) rfl

theorem c_wide_Of' (p0 : Int) (r : api_Wide) (h : wide_Of p0 = r) : Contract Try.prog 62 [.int .u64 p0] [] (.agg [.int .u64 r.Hi, .int .u64 r.Lo]) [] := by
  refine contract_of_vcs tab_ok orders_ok Try.func62 Try.call62 (by kernel_rfl) 0 rfl rfl _ rfl ?_
  delta wide_Of at h
  refine Exists.intro none ?_
  refine Exists.intro none ?_
  first | subst h | rw [← h]
  exact (And.intro rfl (And.intro rfl trivial))
theorem c_wide_Of (p0 : Int) : Contract Try.prog 62 [.int .u64 p0] [] (.agg [.int .u64 (wide_Of p0).Hi, .int .u64 (wide_Of p0).Lo]) [] := c_wide_Of' p0 (wide_Of p0) rfl

theorem c_wide_zero' (p0 : api_Wide) (r : Bool) (h : wide_zero p0 = r) : Contract Try.prog 88 [.agg [.int .u64 p0.Hi, .int .u64 p0.Lo]] [] (.sb r) [] := by
  refine contract_of_vcs tab_ok orders_ok Try.func88 Try.call88 (by kernel_rfl) 0 rfl rfl _ rfl ?_
  delta wide_zero at h
  refine Exists.intro none ?_
  refine Exists.intro none ?_
  refine Exists.intro none ?_
  refine And.intro (fun g1 => ?_) (fun g1 => ?_)
  · skip
    first | subst h | rw [← h]
    exact (And.intro (Eq.symm (aR g1 rfl)) trivial)
  · skip
    first | subst h | rw [← h]
    exact (And.intro (Eq.symm (aL g1)) trivial)
theorem c_wide_zero (p0 : api_Wide) : Contract Try.prog 88 [.agg [.int .u64 p0.Hi, .int .u64 p0.Lo]] [] (.sb (wide_zero p0)) [] := c_wide_zero' p0 (wide_zero p0) rfl

theorem c_wide_Bits (p0 : api_Wide) (r : Int) (h : wide_Bits p0 = some r) : Contract Try.prog 89 [.agg [.int .u64 p0.Hi, .int .u64 p0.Lo]] [] (.int .i64 r) [] := by
  refine contract_of_vcs tab_ok orders_ok Try.func89 Try.call89 (by kernel_rfl) 0 rfl rfl _ rfl ?_
  delta wide_Bits at h
  refine Exists.intro none ?_
  refine Exists.intro none ?_
  refine And.intro (fun g1 => ?_) (fun g1 => ?_)
  · skip
    replace h := cT g1 h
    refine Exists.intro none ?_
    obtain ⟨y2_2, e2_2, h⟩ := bS h
    refine Exists.intro (CK.plain _ _) (And.intro (Contract.wk (c_math_bits_Len64 p0.Hi y2_2 e2_2) (And.intro rfl trivial)) (And.intro rfl ?_))
    replace h := Option.some.inj h
    first | subst h | rw [← h]
    exact (And.intro rfl trivial)
  · skip
    replace h := cF g1 h
    refine Exists.intro none ?_
    obtain ⟨y3_2, e3_2, h⟩ := bS h
    refine Exists.intro (CK.plain _ _) (And.intro (Contract.wk (c_math_bits_Len64 p0.Lo y3_2 e3_2) (And.intro rfl trivial)) (And.intro rfl ?_))
    replace h := Option.some.inj h
    first | subst h | rw [← h]
    exact (And.intro rfl trivial)

theorem c_wide_bit (p0 : api_Wide) (p1 : Int) (r : Int) (h : wide_bit p0 p1 = some r) : Contract Try.prog 90 [.agg [.int .u64 p0.Hi, .int .u64 p0.Lo], .int .i64 p1] [] (.int .u64 r) [] := by
  refine contract_of_vcs tab_ok orders_ok Try.func90 Try.call90 (by kernel_rfl) 0 rfl rfl _ rfl ?_
  delta wide_bit at h
  refine Exists.intro none ?_
  refine Exists.intro none ?_
  refine And.intro (fun g1 => ?_) (fun g1 => ?_)
  · skip
    replace h := cT g1 h
    refine Exists.intro none ?_
    obtain ⟨k2_5, h⟩ := ckS h
    refine And.intro (of_decide_eq_true k2_5) ?_
    replace h := Option.some.inj h
    first | subst h | rw [← h]
    exact (And.intro rfl trivial)
  · skip
    replace h := cF g1 h
    refine Exists.intro none ?_
    obtain ⟨k3_4, h⟩ := ckS h
    refine And.intro (of_decide_eq_true k3_4) ?_
    replace h := Option.some.inj h
    first | subst h | rw [← h]
    exact (And.intro rfl trivial)

theorem c_wide_Compare' (p0 : api_Wide) (p1 : api_Wide) (r : Int) (h : wide_Compare p0 p1 = r) : Contract Try.prog 91 [.agg [.int .u64 p0.Hi, .int .u64 p0.Lo], .agg [.int .u64 p1.Hi, .int .u64 p1.Lo]] [] (.int .i64 r) [] := by
  refine contract_of_vcs tab_ok orders_ok Try.func91 Try.call91 (by kernel_rfl) 0 rfl rfl _ rfl ?_
  delta wide_Compare at h
  refine Exists.intro none ?_
  refine Exists.intro none ?_
  refine Exists.intro (some (⟨Unit, fun _ => [(.tmp 2, .av (.ptr 0 0)), (.tmp 3, .av (.ptr 1 0)), (.tmp 5, .av (.sb ((decide (p0.Hi < p1.Hi)) || ((p0.Hi == p1.Hi) && (decide (p0.Lo < p1.Lo)))))), (.box 0, .box [.int .u64 p0.Hi, .int .u64 p0.Lo]), (.box 1, .box [.int .u64 p1.Hi, .int .u64 p1.Lo])], fun _ => True, fun _ => 0⟩, 1000000)) (And.intro ?_ (fun _ _ => ?_))
  · skip
    refine And.intro (fun g1 => ?_) (fun g1 => ?_)
    · skip
      refine And.intro (fun g2 => ?_) (fun g2 => ?_)
      · skip
        exact Exists.intro [] (Exists.intro [] (Exists.intro () (And.intro trivial (And.intro rfl (And.intro (Eq.symm (oR g1 (aR g2 rfl))) (And.intro rfl (And.intro rfl (And.intro rfl (And.intro rfl trivial)))))))))
      · skip
        exact Exists.intro [] (Exists.intro [] (Exists.intro () (And.intro trivial (And.intro rfl (And.intro (Eq.symm (oR g1 (aL g2))) (And.intro rfl (And.intro rfl (And.intro rfl (And.intro rfl trivial)))))))))
    · skip
      exact Exists.intro [] (Exists.intro [] (Exists.intro () (And.intro trivial (And.intro rfl (And.intro (Eq.symm (oL g1)) (And.intro rfl (And.intro rfl (And.intro rfl (And.intro rfl trivial)))))))))
  · skip
    refine And.intro (fun g3 => ?_) (fun g3 => ?_)
    · skip
      replace h := cT g3 h
      refine Exists.intro none ?_
      first | subst h | rw [← h]
      exact (And.intro rfl trivial)
    · skip
      replace h := cF g3 h
      refine Exists.intro none ?_
      refine And.intro (fun g4 => ?_) (fun g4 => ?_)
      · skip
        replace h := cT g4 h
        refine Exists.intro none ?_
        first | subst h | rw [← h]
        exact (And.intro rfl trivial)
      · skip
        replace h := cF g4 h
        refine Exists.intro none ?_
        first | subst h | rw [← h]
        exact (And.intro rfl trivial)
theorem c_wide_Compare (p0 : api_Wide) (p1 : api_Wide) : Contract Try.prog 91 [.agg [.int .u64 p0.Hi, .int .u64 p0.Lo], .agg [.int .u64 p1.Hi, .int .u64 p1.Lo]] [] (.int .i64 (wide_Compare p0 p1)) [] := c_wide_Compare' p0 p1 (wide_Compare p0 p1) rfl

theorem c_math_bits_Sub64 (p0 p1 p2 : Int) (r : (Int × Int)) (h : math_bits_Sub64 p0 p1 p2 = some r) : Contract Try.prog 92 [.int .u64 p0, .int .u64 p1, .int .u64 p2] [] (.tup [.int .u64 r.1, .int .u64 r.2]) [] :=
  ext_Sub64 Try.func92 (by kernel_rfl) (by kernel_rfl) (by kernel_rfl) (by kernel_rfl) p0 p1 p2 r h

theorem c_wide_Div (p0 : api_Wide) (p1 : api_Wide) (r : (api_Wide × api_Wide × Bool)) (h : wide_Div p0 p1 = some r) : Contract Try.prog 60 [.agg [.int .u64 p0.Hi, .int .u64 p0.Lo], .agg [.int .u64 p1.Hi, .int .u64 p1.Lo]] [] (.tup [.agg [.int .u64 r.1.Hi, .int .u64 r.1.Lo], .agg [.int .u64 r.2.1.Hi, .int .u64 r.2.1.Lo], .sb r.2.2]) [] := by
  refine contract_of_vcs tab_ok orders_ok Try.func60 Try.call60 (by kernel_rfl) 0 rfl rfl _ rfl ?_
  delta wide_Div at h
  refine Exists.intro none ?_
  refine Exists.intro none ?_
  refine Exists.intro (CK.plain _ _) (And.intro (Contract.wk (c_wide_zero p1) (And.intro rfl (And.intro rfl trivial))) (And.intro rfl ?_))
  refine And.intro (fun g1 => ?_) (fun g1 => ?_)
  · skip
    replace h := cT g1 h
    refine Exists.intro none ?_
    replace h := Option.some.inj h
    first | subst h | rw [← h]
    exact (And.intro rfl (And.intro rfl (And.intro rfl (And.intro rfl (And.intro rfl trivial)))))
  · skip
    replace h := cF g1 h
    refine Exists.intro none ?_
    refine Exists.intro none ?_
    obtain ⟨y4_1, e4_1, h⟩ := bS h
    refine Exists.intro (CK.plain _ _) (And.intro (Contract.wk (c_wide_Bits p0 y4_1 e4_1) (And.intro rfl (And.intro rfl trivial))) (And.intro rfl ?_))
    replace h : wide_Div_l3 p0 p1 (w64 (y4_1 - (1:Int))) (0:Int) (0:Int) (0:Int) (0:Int) = some r := h
    delta wide_Div_l3 at h
    obtain ⟨n1, h⟩ := loopS h
    refine Exists.intro ⟨(Int × Int × Int × Int × Int) × Nat, fun q => [(.tmp 2, .av (.ptr 0 0)), (.tmp 3, .av (.ptr 1 0)), (.tmp 4, .av (.ptr 2 0)), (.tmp 5, .av (.ptr 3 0)), (.tmp 7, .av (.ptr 512 0)), (.tmp 8, .av (.ptr 513 0)), (.tmp 9, .av (.int .i64 q.1.1)), (.box 0, .box [.int .u64 p0.Hi, .int .u64 p0.Lo]), (.box 1, .box [.int .u64 p1.Hi, .int .u64 p1.Lo]), (.box 2, .box [.int .u64 (0:Int), .int .u64 (0:Int)]), (.box 3, .box [.int .u64 (0:Int), .int .u64 (0:Int)]), (.box 512, .box [.int .u64 q.1.2.1, .int .u64 q.1.2.2.1]), (.box 513, .box [.int .u64 q.1.2.2.2.1, .int .u64 q.1.2.2.2.2])], fun q => loopN (fun (s : (Int × Int × Int × Int × Int)) => wide_Div_l3s p0 p1 s.1 s.2.1 s.2.2.1 s.2.2.2.1 s.2.2.2.2) q.2 q.1 = some r, fun q => q.2⟩ (And.intro (Exists.intro [] (Exists.intro [] (Exists.intro (((w64 (y4_1 - (1:Int))), (0:Int), (0:Int), (0:Int), (0:Int)), n1) (And.intro h (And.intro rfl (And.intro rfl (And.intro rfl (And.intro rfl (And.intro rfl (And.intro rfl (And.intro rfl (And.intro rfl (And.intro rfl (And.intro rfl (And.intro rfl (And.intro rfl (And.intro rfl (And.intro rfl trivial)))))))))))))))))) ?_)
    clear h
    refine fun q h => ?_
    obtain ⟨⟨v3_9, v3_b3x0_0, v3_b3x0_1, v3_b3x1_0, v3_b3x1_1⟩, n1⟩ := q
    obtain ⟨m1, x1, hm1, h, hl1, hr1⟩ := loopN_step h
    replace hm1 : n1 = m1 + 1 := hm1
    subst hm1
    replace h : wide_Div_l3s p0 p1 v3_9 v3_b3x0_0 v3_b3x0_1 v3_b3x1_0 v3_b3x1_1 = some x1 := h
    delta wide_Div_l3s at h
    refine Exists.intro none ?_
    refine And.intro (fun g2 => ?_) (fun g2 => ?_)
    · skip
      replace h := cT g2 h
      refine Exists.intro none ?_
      refine Exists.intro none ?_
      refine And.intro (by decide) ?_
      refine Exists.intro none ?_
      obtain ⟨y8_12, e8_12, h⟩ := bS h
      refine And.intro (by decide) ?_
      refine And.intro (by decide) ?_
      refine And.intro (by decide) ?_
      refine Exists.intro (CK.plain _ _) (And.intro (Contract.wk (c_wide_bit p0 v3_9 y8_12 e8_12) (And.intro rfl (And.intro rfl (And.intro rfl trivial)))) (And.intro rfl ?_))
      refine Exists.intro none ?_
      refine And.intro (by decide) ?_
      refine And.intro (by decide) ?_
      refine And.intro (by decide) ?_
      refine Exists.intro none ?_
      refine Exists.intro (some (⟨Unit, fun _ => [(.tmp 2, .av (.ptr 0 0)), (.tmp 3, .av (.ptr 1 0)), (.tmp 4, .av (.ptr 2 0)), (.tmp 5, .av (.ptr 3 0)), (.tmp 7, .av (.ptr 512 0)), (.tmp 8, .av (.ptr 513 0)), (.tmp 9, .av (.int .i64 v3_9)), (.tmp 62, .av (.sb (((ishr .u64 v3_b3x1_0 (63:Int)) == (1:Int)) || (decide ((wide_Compare (api_Wide.mk (ior .u64 (ishl .u64 v3_b3x1_0 (1:Int)) (ishr .u64 v3_b3x1_1 (63:Int))) (ior .u64 (ishl .u64 v3_b3x1_1 (1:Int)) y8_12)) p1) ≥ (0:Int)))))), (.box 0, .box [.int .u64 p0.Hi, .int .u64 p0.Lo]), (.box 1, .box [.int .u64 p1.Hi, .int .u64 p1.Lo]), (.box 2, .box [.int .u64 (0:Int), .int .u64 (0:Int)]), (.box 3, .box [.int .u64 (0:Int), .int .u64 (0:Int)]), (.box 512, .box [.int .u64 (ior .u64 (ishl .u64 v3_b3x0_0 (1:Int)) (ishr .u64 v3_b3x0_1 (63:Int))), .int .u64 (ishl .u64 v3_b3x0_1 (1:Int))]), (.box 513, .box [.int .u64 (ior .u64 (ishl .u64 v3_b3x1_0 (1:Int)) (ishr .u64 v3_b3x1_1 (63:Int))), .int .u64 (ior .u64 (ishl .u64 v3_b3x1_1 (1:Int)) y8_12)])], fun _ => True, fun _ => 0⟩, 1000000)) (And.intro ?_ (fun _ _ => ?_))
      · skip
        refine And.intro (fun g3 => ?_) (fun g3 => ?_)
        · skip
          refine Exists.intro (CK.plain _ _) (And.intro (Contract.wk (c_wide_Compare (api_Wide.mk (ior .u64 (ishl .u64 v3_b3x1_0 (1:Int)) (ishr .u64 v3_b3x1_1 (63:Int))) (ior .u64 (ishl .u64 v3_b3x1_1 (1:Int)) y8_12)) p1) (And.intro rfl (And.intro rfl (And.intro rfl (And.intro rfl trivial))))) (And.intro rfl ?_))
          exact Exists.intro [] (Exists.intro [] (Exists.intro () (And.intro trivial (And.intro rfl (And.intro rfl (And.intro (Eq.symm (oR g3 rfl)) (And.intro rfl (And.intro rfl (And.intro rfl (And.intro rfl (And.intro rfl (And.intro rfl (And.intro rfl (And.intro rfl (And.intro rfl (And.intro rfl (And.intro rfl (And.intro rfl trivial))))))))))))))))))
        · skip
          exact Exists.intro [] (Exists.intro [] (Exists.intro () (And.intro trivial (And.intro rfl (And.intro rfl (And.intro (Eq.symm (oL g3)) (And.intro rfl (And.intro rfl (And.intro rfl (And.intro rfl (And.intro rfl (And.intro rfl (And.intro rfl (And.intro rfl (And.intro rfl (And.intro rfl (And.intro rfl (And.intro rfl trivial))))))))))))))))))
      · skip
        refine Exists.intro none ?_
        refine And.intro (fun g4 => ?_) (fun g4 => ?_)
        · skip
          replace h := cT g4 h
          refine Exists.intro none ?_
          obtain ⟨y11_4, e11_4, h⟩ := bS h
          refine Exists.intro (CK.plain _ _) (And.intro (Contract.wk (c_math_bits_Sub64 (ior .u64 (ishl .u64 v3_b3x1_1 (1:Int)) y8_12) p1.Lo (0:Int) y11_4 e11_4) (And.intro rfl (And.intro rfl (And.intro rfl trivial)))) (And.intro rfl ?_))
          refine Exists.intro none ?_
          obtain ⟨y12_5, e12_5, h⟩ := bS h
          refine Exists.intro (CK.plain _ _) (And.intro (Contract.wk (c_math_bits_Sub64 (ior .u64 (ishl .u64 v3_b3x1_0 (1:Int)) (ishr .u64 v3_b3x1_1 (63:Int))) p1.Hi y11_4.2 y12_5 e12_5) (And.intro rfl (And.intro rfl (And.intro rfl trivial)))) (And.intro rfl ?_))
          refine Exists.intro none ?_
          refine Exists.intro none ?_
          refine Exists.intro none ?_
          exact Exists.intro [] (Exists.intro [] (Exists.intro (((w64 (v3_9 - (1:Int))), (ior .u64 (ishl .u64 v3_b3x0_0 (1:Int)) (ishr .u64 v3_b3x0_1 (63:Int))), (ior .u64 (ishl .u64 v3_b3x0_1 (1:Int)) (1:Int)), y12_5.1, y11_4.1), m1) (And.intro (hl1 ((w64 (v3_9 - (1:Int))), (ior .u64 (ishl .u64 v3_b3x0_0 (1:Int)) (ishr .u64 v3_b3x0_1 (63:Int))), (ior .u64 (ishl .u64 v3_b3x0_1 (1:Int)) (1:Int)), y12_5.1, y11_4.1) (Option.some.inj h).symm) (And.intro (Nat.lt_succ_self m1) (And.intro rfl (And.intro rfl (And.intro rfl (And.intro rfl (And.intro rfl (And.intro rfl (And.intro rfl (And.intro rfl (And.intro rfl (And.intro rfl (And.intro rfl (And.intro rfl (And.intro rfl (And.intro rfl trivial))))))))))))))))))
        · skip
          replace h := cF g4 h
          refine Exists.intro none ?_
          exact Exists.intro [] (Exists.intro [] (Exists.intro (((w64 (v3_9 - (1:Int))), (ior .u64 (ishl .u64 v3_b3x0_0 (1:Int)) (ishr .u64 v3_b3x0_1 (63:Int))), (ishl .u64 v3_b3x0_1 (1:Int)), (ior .u64 (ishl .u64 v3_b3x1_0 (1:Int)) (ishr .u64 v3_b3x1_1 (63:Int))), (ior .u64 (ishl .u64 v3_b3x1_1 (1:Int)) y8_12)), m1) (And.intro (hl1 ((w64 (v3_9 - (1:Int))), (ior .u64 (ishl .u64 v3_b3x0_0 (1:Int)) (ishr .u64 v3_b3x0_1 (63:Int))), (ishl .u64 v3_b3x0_1 (1:Int)), (ior .u64 (ishl .u64 v3_b3x1_0 (1:Int)) (ishr .u64 v3_b3x1_1 (63:Int))), (ior .u64 (ishl .u64 v3_b3x1_1 (1:Int)) y8_12)) (Option.some.inj h).symm) (And.intro (Nat.lt_succ_self m1) (And.intro rfl (And.intro rfl (And.intro rfl (And.intro rfl (And.intro rfl (And.intro rfl (And.intro rfl (And.intro rfl (And.intro rfl (And.intro rfl (And.intro rfl (And.intro rfl (And.intro rfl (And.intro rfl trivial))))))))))))))))))
    · skip
      replace h := cF g2 h
      replace h := popS h hr1
      refine Exists.intro none ?_
      replace h := Option.some.inj h
      first | subst h | rw [← h]
      exact (And.intro rfl (And.intro rfl (And.intro rfl (And.intro rfl (And.intro rfl trivial)))))

theorem c_exact_Quantile (p0 : (List api_Item)) (p1 : Int) (p2 : Int) (r : (Int × Bool)) (h : exact_Quantile p0 p1 p2 = some r) : Contract Try.prog 34 [.lst 2 false (List.map enc_api_Item p0), .int .i64 p1, .int .i64 p2] [] (.tup [.int .i64 r.1, .sb r.2]) [] := by
  refine contract_of_vcs tab_ok orders_ok Try.func34 Try.call34 (by kernel_rfl) 0 rfl rfl _ rfl ?_
  delta exact_Quantile at h
  refine Exists.intro none ?_
  refine Exists.intro none ?_
  refine Exists.intro none ?_
  refine Exists.intro [.int .i64 (p0.length : Int)] (And.intro (lenS enc_api_Item p0) ?_)
  refine And.intro (fun g1 => ?_) (fun g1 => ?_)
  · skip
    refine And.intro (fun g2 => ?_) (fun g2 => ?_)
    · skip
      refine And.intro (fun g3 => ?_) (fun g3 => ?_)
      · skip
        refine And.intro (fun g4 => ?_) (fun g4 => ?_)
        · skip
          replace h := cT (oR (oR (oR g1 g2) g3) g4) h
          refine Exists.intro none ?_
          replace h := Option.some.inj h
          first | subst h | rw [← h]
          exact (And.intro rfl (And.intro rfl trivial))
        · skip
          replace h := cF (oR (oR (oR g1 g2) g3) g4) h
          refine Exists.intro none ?_
          obtain ⟨y3_9, e3_9, h⟩ := bS h
          refine Exists.intro [.int .i64 (p0.length : Int)] (And.intro (lenS enc_api_Item p0) ?_)
          refine Exists.intro (CK.plain _ _) (And.intro (Contract.wk (c_wide_Product (wu64 p1) (wu64 (p0.length : Int))) (And.intro rfl (And.intro rfl trivial))) (And.intro rfl ?_))
          refine Exists.intro (CK.plain _ _) (And.intro (Contract.wk (c_wide_Of (wu64 p2)) (And.intro rfl trivial)) (And.intro rfl ?_))
          refine Exists.intro (CK.plain _ _) (And.intro (Contract.wk (c_wide_Div (wide_Product (wu64 p1) (wu64 (p0.length : Int))) (wide_Of (wu64 p2)) y3_9 e3_9) (And.intro rfl (And.intro rfl (And.intro rfl (And.intro rfl trivial))))) (And.intro rfl ?_))
          refine Exists.intro none ?_
          refine Exists.intro (some (⟨Int, fun j2_b3x14_1 => [(.tmp 0, .av (.lst 2 false (List.map enc_api_Item p0))), (.tmp 8, .av (.ptr 526 0)), (.box 526, .box [.int .u64 y3_9.1.Hi, .int .u64 j2_b3x14_1])], fun j2_b3x14_1 => exact_Quantile_j2 p0 j2_b3x14_1 = some r, fun _ => 0⟩, 1000000)) (And.intro ?_ ?_)
          · skip
            refine And.intro (fun g5 => ?_) (fun g5 => ?_)
            · skip
              replace h := cT g5 h
              refine Exists.intro none ?_
              exact Exists.intro [] (Exists.intro [] (Exists.intro (wu64 (y3_9.1.Lo + (1:Int))) (And.intro h (And.intro rfl (And.intro ff (And.intro rfl (And.intro rfl (And.intro rfl trivial))))))))
            · skip
              replace h := cF g5 h
              exact Exists.intro [] (Exists.intro [] (Exists.intro y3_9.1.Lo (And.intro h (And.intro rfl (And.intro ff (And.intro rfl (And.intro rfl (And.intro rfl trivial))))))))
          · skip
            clear h
            refine fun j2_b3x14_1 h => ?_
            replace h : exact_Quantile_j2 p0 j2_b3x14_1 = some r := h
            delta exact_Quantile_j2 at h
            refine Exists.intro none ?_
            refine Exists.intro none ?_
            refine Exists.intro [.int .i64 (p0.length : Int)] (And.intro (lenS enc_api_Item p0) ?_)
            replace h : exact_Quantile_l4 p0 j2_b3x14_1 ([] : List Int) (0:Int) = some r := h
            delta exact_Quantile_l4 at h
            obtain ⟨n1, h⟩ := loopS h
            refine Exists.intro ⟨((List Int) × Int) × Nat, fun q => [(.tmp 8, .av (.ptr 526 0)), (.tmp 11, .av (.own 1000511)), (.tmp 51, .av (.lst 2 false (List.map enc_api_Item p0))), (.tmp 52, .av (.int .i64 (p0.length : Int))), (.tmp 53, .av (.int .i64 q.1.2)), (.box 526, .box [.int .u64 y3_9.1.Hi, .int .u64 j2_b3x14_1]), (.tok 1000511, .tok 2 1 (List.map (eI .i64) q.1.1))], fun q => loopN (fun (s : ((List Int) × Int)) => exact_Quantile_l4s p0 j2_b3x14_1 s.1 s.2) q.2 q.1 = some r, fun q => q.2⟩ (And.intro (Exists.intro [(1000511, none)] (Exists.intro [] (Exists.intro ((([] : List Int), (0:Int)), n1) (And.intro h (And.intro rfl (And.intro ff (And.intro rfl (And.intro rfl (And.intro rfl (And.intro rfl (And.intro rfl (And.intro rfl trivial)))))))))))) ?_)
            clear h
            refine fun q h => ?_
            obtain ⟨⟨v4_11, v4_53⟩, n1⟩ := q
            obtain ⟨m1, x1, hm1, h, hl1, hr1⟩ := loopN_step h
            replace hm1 : n1 = m1 + 1 := hm1
            subst hm1
            replace h : exact_Quantile_l4s p0 j2_b3x14_1 v4_11 v4_53 = some x1 := h
            delta exact_Quantile_l4s at h
            refine Exists.intro none ?_
            refine And.intro (fun g6 => ?_) (fun g6 => ?_)
            · skip
              replace h := cT g6 h
              refine Exists.intro none ?_
              obtain ⟨x9_0, e9_0, h⟩ := bS h
              refine Exists.intro [.int .i64 x9_0.T, .int .i64 x9_0.V] (And.intro (idx_map enc_api_Item e9_0) ?_)
              refine Exists.intro none ?_
              obtain ⟨k10_4, h⟩ := ckS h
              refine And.intro (by have hh := (of_decide_eq_true k10_4); (try simp only [encZ, fixRows_length, List.length_map, List.length_append, List.length_take, List.length_drop, List.length_set, List.length_replicate, List.length_cons, List.length_nil] at hh); (try simp only [encZ, fixRows_length, List.length_map, List.length_append, List.length_take, List.length_drop, List.length_set, List.length_replicate, List.length_cons, List.length_nil]); (try simp only [w64, wu64] at hh); (try simp only [w64, wu64]); omega) ?_
              refine Exists.intro none ?_
              exact Exists.intro [(1000511, some 1001028)] (Exists.intro [] (Exists.intro (((v4_11 ++ [x9_0.V]), (w64 (v4_53 + (1:Int)))), m1) (And.intro (hl1 ((v4_11 ++ [x9_0.V]), (w64 (v4_53 + (1:Int)))) (Option.some.inj h).symm) (And.intro (Nat.lt_succ_self m1) (And.intro rfl (And.intro ff (And.intro rfl (And.intro rfl (And.intro rfl (And.intro rfl (And.intro rfl (And.intro (by first | rfl | (simp only [encZ, List.map_append, List.map_cons, List.map_nil, List.map_take, List.map_drop, List.map_set, List.map_replicate]; done) | (simp only [encZ, List.map_append, List.map_cons, List.map_nil, List.map_take, List.map_drop, List.map_set, List.map_replicate]; rfl) | (simp only [encZ, List.map_append, List.map_cons, List.map_nil, List.map_take, List.map_drop, List.map_set, List.map_replicate, eL, enc_api_Ranks, enc_api_Recent, enc_api_Answer]; done) | (simp only [encZ, List.map_append, List.map_cons, List.map_nil, List.map_take, List.map_drop, List.map_set, List.map_replicate, eL, enc_api_Ranks, enc_api_Recent, enc_api_Answer]; rfl)) trivial))))))))))))
            · skip
              replace h := cF g6 h
              replace h := popS h hr1
              refine Exists.intro none ?_
              obtain ⟨k12_1, h⟩ := ckS h
              refine Exists.intro (CK.sorts 1000511 2 v4_11) (And.intro sorts_int (And.intro (And.intro rfl (And.intro rfl (of_decide_eq_true k12_1))) ?_))
              refine Exists.intro none ?_
              obtain ⟨x13_6, e13_6, h⟩ := bS h
              obtain ⟨x13_7, e13_7, h⟩ := bS h
              refine And.intro (idx_lt (eI .i64) e13_6) ?_
              refine Exists.intro [.int .i64 x13_7] (And.intro (idx_elt (eI .i64) e13_7) ?_)
              replace h := Option.some.inj h
              first | subst h | rw [← h]
              exact (And.intro rfl (And.intro rfl trivial))
      · skip
        replace h := cT (oL (oR (oR g1 g2) g3)) h
        refine Exists.intro none ?_
        replace h := Option.some.inj h
        first | subst h | rw [← h]
        exact (And.intro rfl (And.intro rfl trivial))
    · skip
      replace h := cT (oL (oL (oR g1 g2))) h
      refine Exists.intro none ?_
      replace h := Option.some.inj h
      first | subst h | rw [← h]
      exact (And.intro rfl (And.intro rfl trivial))
  · skip
    replace h := cT (oL (oL (oL g1))) h
    refine Exists.intro none ?_
    replace h := Option.some.inj h
    first | subst h | rw [← h]
    exact (And.intro rfl (And.intro rfl trivial))

theorem c_ref02_Of' (p0 : Int) (r : api_Wide) (h : ref02_Of p0 = r) : Contract Try.prog 96 [.int .u64 p0] [] (.agg [.int .u64 r.Hi, .int .u64 r.Lo]) [] := by
  refine contract_of_vcs tab_ok orders_ok Try.func96 Try.call96 (by kernel_rfl) 0 rfl rfl _ rfl ?_
  delta ref02_Of at h
  refine Exists.intro none ?_
  refine Exists.intro none ?_
  first | subst h | rw [← h]
  exact (And.intro rfl (And.intro rfl trivial))
theorem c_ref02_Of (p0 : Int) : Contract Try.prog 96 [.int .u64 p0] [] (.agg [.int .u64 (ref02_Of p0).Hi, .int .u64 (ref02_Of p0).Lo]) [] := c_ref02_Of' p0 (ref02_Of p0) rfl

theorem c_ref02_bit (p0 : api_Wide) (p1 : Int) (r : Int) (h : ref02_bit p0 p1 = some r) : Contract Try.prog 121 [.agg [.int .u64 p0.Hi, .int .u64 p0.Lo], .int .i64 p1] [] (.int .u64 r) [] := by
  refine contract_of_vcs tab_ok orders_ok Try.func121 Try.call121 (by kernel_rfl) 0 rfl rfl _ rfl ?_
  delta ref02_bit at h
  refine Exists.intro none ?_
  refine Exists.intro none ?_
  refine And.intro (fun g1 => ?_) (fun g1 => ?_)
  · skip
    replace h := cT g1 h
    refine Exists.intro none ?_
    obtain ⟨k2_5, h⟩ := ckS h
    refine And.intro (of_decide_eq_true k2_5) ?_
    replace h := Option.some.inj h
    first | subst h | rw [← h]
    exact (And.intro rfl trivial)
  · skip
    replace h := cF g1 h
    refine Exists.intro none ?_
    obtain ⟨k3_4, h⟩ := ckS h
    refine And.intro (of_decide_eq_true k3_4) ?_
    replace h := Option.some.inj h
    first | subst h | rw [← h]
    exact (And.intro rfl trivial)

theorem c_ref02_double' (p0 : api_Wide) (p1 : Int) (r : (api_Wide × Int)) (h : ref02_double p0 p1 = r) : Contract Try.prog 120 [.agg [.int .u64 p0.Hi, .int .u64 p0.Lo], .int .u64 p1] [] (.tup [.agg [.int .u64 r.1.Hi, .int .u64 r.1.Lo], .int .u64 r.2]) [] := by
  refine contract_of_vcs tab_ok orders_ok Try.func120 Try.call120 (by kernel_rfl) 0 rfl rfl _ rfl ?_
  delta ref02_double at h
  refine Exists.intro none ?_
  refine Exists.intro none ?_
  refine And.intro (by decide) ?_
  refine And.intro (by decide) ?_
  refine And.intro (by decide) ?_
  refine And.intro (by decide) ?_
  first | subst h | rw [← h]
  exact (And.intro rfl (And.intro rfl (And.intro rfl trivial)))
theorem c_ref02_double (p0 : api_Wide) (p1 : Int) : Contract Try.prog 120 [.agg [.int .u64 p0.Hi, .int .u64 p0.Lo], .int .u64 p1] [] (.tup [.agg [.int .u64 (ref02_double p0 p1).1.Hi, .int .u64 (ref02_double p0 p1).1.Lo], .int .u64 (ref02_double p0 p1).2]) [] := c_ref02_double' p0 p1 (ref02_double p0 p1) rfl

theorem c_ref02_Compare' (p0 : api_Wide) (p1 : api_Wide) (r : Int) (h : ref02_Compare p0 p1 = r) : Contract Try.prog 122 [.agg [.int .u64 p0.Hi, .int .u64 p0.Lo], .agg [.int .u64 p1.Hi, .int .u64 p1.Lo]] [] (.int .i64 r) [] := by
  refine contract_of_vcs tab_ok orders_ok Try.func122 Try.call122 (by kernel_rfl) 0 rfl rfl _ rfl ?_
  delta ref02_Compare at h
  refine Exists.intro none ?_
  refine Exists.intro none ?_
  refine Exists.intro (some (⟨Unit, fun _ => [(.tmp 2, .av (.ptr 0 0)), (.tmp 3, .av (.ptr 1 0)), (.tmp 5, .av (.sb ((decide (p0.Hi < p1.Hi)) || ((p0.Hi == p1.Hi) && (decide (p0.Lo < p1.Lo)))))), (.box 0, .box [.int .u64 p0.Hi, .int .u64 p0.Lo]), (.box 1, .box [.int .u64 p1.Hi, .int .u64 p1.Lo])], fun _ => True, fun _ => 0⟩, 1000000)) (And.intro ?_ (fun _ _ => ?_))
  · skip
    refine And.intro (fun g1 => ?_) (fun g1 => ?_)
    · skip
      refine And.intro (fun g2 => ?_) (fun g2 => ?_)
      · skip
        exact Exists.intro [] (Exists.intro [] (Exists.intro () (And.intro trivial (And.intro rfl (And.intro (Eq.symm (oR g1 (aR g2 rfl))) (And.intro rfl (And.intro rfl (And.intro rfl (And.intro rfl trivial)))))))))
      · skip
        exact Exists.intro [] (Exists.intro [] (Exists.intro () (And.intro trivial (And.intro rfl (And.intro (Eq.symm (oR g1 (aL g2))) (And.intro rfl (And.intro rfl (And.intro rfl (And.intro rfl trivial)))))))))
    · skip
      exact Exists.intro [] (Exists.intro [] (Exists.intro () (And.intro trivial (And.intro rfl (And.intro (Eq.symm (oL g1)) (And.intro rfl (And.intro rfl (And.intro rfl (And.intro rfl trivial)))))))))
  · skip
    refine And.intro (fun g3 => ?_) (fun g3 => ?_)
    · skip
      replace h := cT g3 h
      refine Exists.intro none ?_
      first | subst h | rw [← h]
      exact (And.intro rfl trivial)
    · skip
      replace h := cF g3 h
      refine Exists.intro none ?_
      refine And.intro (fun g4 => ?_) (fun g4 => ?_)
      · skip
        replace h := cT g4 h
        refine Exists.intro none ?_
        first | subst h | rw [← h]
        exact (And.intro rfl trivial)
      · skip
        replace h := cF g4 h
        refine Exists.intro none ?_
        first | subst h | rw [← h]
        exact (And.intro rfl trivial)
theorem c_ref02_Compare (p0 : api_Wide) (p1 : api_Wide) : Contract Try.prog 122 [.agg [.int .u64 p0.Hi, .int .u64 p0.Lo], .agg [.int .u64 p1.Hi, .int .u64 p1.Lo]] [] (.int .i64 (ref02_Compare p0 p1)) [] := c_ref02_Compare' p0 p1 (ref02_Compare p0 p1) rfl

theorem c_ref02_Div (p0 : api_Wide) (p1 : api_Wide) (r : (api_Wide × api_Wide × Bool)) (h : ref02_Div p0 p1 = some r) : Contract Try.prog 94 [.agg [.int .u64 p0.Hi, .int .u64 p0.Lo], .agg [.int .u64 p1.Hi, .int .u64 p1.Lo]] [] (.tup [.agg [.int .u64 r.1.Hi, .int .u64 r.1.Lo], .agg [.int .u64 r.2.1.Hi, .int .u64 r.2.1.Lo], .sb r.2.2]) [] := by
  refine contract_of_vcs tab_ok orders_ok Try.func94 Try.call94 (by kernel_rfl) 0 rfl rfl _ rfl ?_
  delta ref02_Div at h
  refine Exists.intro none ?_
  refine Exists.intro none ?_
  refine And.intro (fun g1 => ?_) (fun g1 => ?_)
  · skip
    replace h := cT g1 h
    refine Exists.intro none ?_
    replace h := Option.some.inj h
    first | subst h | rw [← h]
    exact (And.intro rfl (And.intro rfl (And.intro rfl (And.intro rfl (And.intro rfl trivial)))))
  · skip
    replace h := cF g1 h
    refine Exists.intro none ?_
    refine Exists.intro none ?_
    replace h : ref02_Div_l3 p0 p1 (127:Int) (0:Int) (0:Int) (0:Int) (0:Int) = some r := h
    delta ref02_Div_l3 at h
    obtain ⟨n1, h⟩ := loopS h
    refine Exists.intro ⟨(Int × Int × Int × Int × Int) × Nat, fun q => [(.tmp 2, .av (.ptr 0 0)), (.tmp 3, .av (.ptr 1 0)), (.tmp 4, .av (.ptr 2 0)), (.tmp 5, .av (.ptr 3 0)), (.tmp 7, .av (.ptr 512 0)), (.tmp 8, .av (.ptr 513 0)), (.tmp 9, .av (.int .i64 q.1.1)), (.box 0, .box [.int .u64 p0.Hi, .int .u64 p0.Lo]), (.box 1, .box [.int .u64 p1.Hi, .int .u64 p1.Lo]), (.box 2, .box [.int .u64 (0:Int), .int .u64 (0:Int)]), (.box 3, .box [.int .u64 (0:Int), .int .u64 (0:Int)]), (.box 512, .box [.int .u64 q.1.2.1, .int .u64 q.1.2.2.1]), (.box 513, .box [.int .u64 q.1.2.2.2.1, .int .u64 q.1.2.2.2.2])], fun q => loopN (fun (s : (Int × Int × Int × Int × Int)) => ref02_Div_l3s p0 p1 s.1 s.2.1 s.2.2.1 s.2.2.2.1 s.2.2.2.2) q.2 q.1 = some r, fun q => q.2⟩ (And.intro (Exists.intro [] (Exists.intro [] (Exists.intro (((127:Int), (0:Int), (0:Int), (0:Int), (0:Int)), n1) (And.intro h (And.intro rfl (And.intro rfl (And.intro rfl (And.intro rfl (And.intro rfl (And.intro rfl (And.intro rfl (And.intro rfl (And.intro rfl (And.intro rfl (And.intro rfl (And.intro rfl (And.intro rfl (And.intro rfl trivial)))))))))))))))))) ?_)
    clear h
    refine fun q h => ?_
    obtain ⟨⟨v3_9, v3_b3x0_0, v3_b3x0_1, v3_b3x1_0, v3_b3x1_1⟩, n1⟩ := q
    obtain ⟨m1, x1, hm1, h, hl1, hr1⟩ := loopN_step h
    replace hm1 : n1 = m1 + 1 := hm1
    subst hm1
    replace h : ref02_Div_l3s p0 p1 v3_9 v3_b3x0_0 v3_b3x0_1 v3_b3x1_0 v3_b3x1_1 = some x1 := h
    delta ref02_Div_l3s at h
    refine Exists.intro none ?_
    refine And.intro (fun g2 => ?_) (fun g2 => ?_)
    · skip
      replace h := cT g2 h
      refine Exists.intro none ?_
      refine Exists.intro none ?_
      refine Exists.intro none ?_
      obtain ⟨y8_3, e8_3, h⟩ := bS h
      refine Exists.intro (CK.plain _ _) (And.intro (Contract.wk (c_ref02_bit p0 v3_9 y8_3 e8_3) (And.intro rfl (And.intro rfl (And.intro rfl trivial)))) (And.intro rfl ?_))
      refine Exists.intro (CK.plain _ _) (And.intro (Contract.wk (c_ref02_double (api_Wide.mk v3_b3x1_0 v3_b3x1_1) y8_3) (And.intro rfl (And.intro rfl (And.intro rfl trivial)))) (And.intro rfl ?_))
      refine Exists.intro none ?_
      refine Exists.intro none ?_
      refine Exists.intro (some (⟨Unit, fun _ => [(.tmp 2, .av (.ptr 0 0)), (.tmp 3, .av (.ptr 1 0)), (.tmp 4, .av (.ptr 2 0)), (.tmp 5, .av (.ptr 3 0)), (.tmp 7, .av (.ptr 512 0)), (.tmp 8, .av (.ptr 513 0)), (.tmp 9, .av (.int .i64 v3_9)), (.tmp 11, .av (.int .u64 (0:Int))), (.tmp 40, .av (.sb (((ref02_double (api_Wide.mk v3_b3x1_0 v3_b3x1_1) y8_3).2 != (0:Int)) || (decide ((ref02_Compare (ref02_double (api_Wide.mk v3_b3x1_0 v3_b3x1_1) y8_3).1 p1) ≥ (0:Int)))))), (.box 0, .box [.int .u64 p0.Hi, .int .u64 p0.Lo]), (.box 1, .box [.int .u64 p1.Hi, .int .u64 p1.Lo]), (.box 2, .box [.int .u64 (0:Int), .int .u64 (0:Int)]), (.box 3, .box [.int .u64 (0:Int), .int .u64 (0:Int)]), (.box 512, .box [.int .u64 v3_b3x0_0, .int .u64 v3_b3x0_1]), (.box 513, .box [.int .u64 (ref02_double (api_Wide.mk v3_b3x1_0 v3_b3x1_1) y8_3).1.Hi, .int .u64 (ref02_double (api_Wide.mk v3_b3x1_0 v3_b3x1_1) y8_3).1.Lo])], fun _ => True, fun _ => 0⟩, 1000000)) (And.intro ?_ (fun _ _ => ?_))
      · skip
        refine And.intro (fun g3 => ?_) (fun g3 => ?_)
        · skip
          refine Exists.intro (CK.plain _ _) (And.intro (Contract.wk (c_ref02_Compare (ref02_double (api_Wide.mk v3_b3x1_0 v3_b3x1_1) y8_3).1 p1) (And.intro rfl (And.intro rfl (And.intro rfl (And.intro rfl trivial))))) (And.intro rfl ?_))
          exact Exists.intro [] (Exists.intro [] (Exists.intro () (And.intro trivial (And.intro rfl (And.intro rfl (And.intro rfl (And.intro (Eq.symm (oR g3 rfl)) (And.intro rfl (And.intro rfl (And.intro rfl (And.intro rfl (And.intro rfl (And.intro rfl (And.intro rfl (And.intro rfl (And.intro rfl (And.intro rfl (And.intro rfl (And.intro rfl trivial)))))))))))))))))))
        · skip
          exact Exists.intro [] (Exists.intro [] (Exists.intro () (And.intro trivial (And.intro rfl (And.intro rfl (And.intro rfl (And.intro (Eq.symm (oL g3)) (And.intro rfl (And.intro rfl (And.intro rfl (And.intro rfl (And.intro rfl (And.intro rfl (And.intro rfl (And.intro rfl (And.intro rfl (And.intro rfl (And.intro rfl (And.intro rfl trivial)))))))))))))))))))
      · skip
        refine Exists.intro (some (⟨Int × Int × Int, fun q => [(.tmp 2, .av (.ptr 0 0)), (.tmp 3, .av (.ptr 1 0)), (.tmp 4, .av (.ptr 2 0)), (.tmp 5, .av (.ptr 3 0)), (.tmp 7, .av (.ptr 512 0)), (.tmp 8, .av (.ptr 513 0)), (.tmp 9, .av (.int .i64 v3_9)), (.tmp 11, .av (.int .u64 q.1)), (.box 0, .box [.int .u64 p0.Hi, .int .u64 p0.Lo]), (.box 1, .box [.int .u64 p1.Hi, .int .u64 p1.Lo]), (.box 2, .box [.int .u64 (0:Int), .int .u64 (0:Int)]), (.box 3, .box [.int .u64 (0:Int), .int .u64 (0:Int)]), (.box 512, .box [.int .u64 v3_b3x0_0, .int .u64 v3_b3x0_1]), (.box 513, .box [.int .u64 q.2.1, .int .u64 q.2.2])], fun q => ref02_Div_j6 v3_9 v3_b3x0_0 v3_b3x0_1 q.1 q.2.1 q.2.2 = some x1, fun _ => 0⟩, 2000000)) (And.intro ?_ ?_)
        · skip
          refine And.intro (fun g4 => ?_) (fun g4 => ?_)
          · skip
            replace h := cT g4 h
            refine Exists.intro none ?_
            obtain ⟨y11_4, e11_4, h⟩ := bS h
            refine Exists.intro (CK.plain _ _) (And.intro (Contract.wk (c_math_bits_Sub64 (ref02_double (api_Wide.mk v3_b3x1_0 v3_b3x1_1) y8_3).1.Lo p1.Lo (0:Int) y11_4 e11_4) (And.intro rfl (And.intro rfl (And.intro rfl trivial)))) (And.intro rfl ?_))
            refine Exists.intro none ?_
            obtain ⟨y12_5, e12_5, h⟩ := bS h
            refine Exists.intro (CK.plain _ _) (And.intro (Contract.wk (c_math_bits_Sub64 (ref02_double (api_Wide.mk v3_b3x1_0 v3_b3x1_1) y8_3).1.Hi p1.Hi y11_4.2 y12_5 e12_5) (And.intro rfl (And.intro rfl (And.intro rfl trivial)))) (And.intro rfl ?_))
            refine Exists.intro none ?_
            exact Exists.intro [] (Exists.intro [] (Exists.intro ((1:Int), y12_5.1, y11_4.1) (And.intro h (And.intro rfl (And.intro rfl (And.intro rfl (And.intro rfl (And.intro rfl (And.intro rfl (And.intro rfl (And.intro rfl (And.intro rfl (And.intro rfl (And.intro rfl (And.intro rfl (And.intro rfl (And.intro rfl (And.intro rfl trivial))))))))))))))))))
          · skip
            replace h := cF g4 h
            exact Exists.intro [] (Exists.intro [] (Exists.intro ((0:Int), (ref02_double (api_Wide.mk v3_b3x1_0 v3_b3x1_1) y8_3).1.Hi, (ref02_double (api_Wide.mk v3_b3x1_0 v3_b3x1_1) y8_3).1.Lo) (And.intro h (And.intro rfl (And.intro rfl (And.intro rfl (And.intro rfl (And.intro rfl (And.intro rfl (And.intro rfl (And.intro rfl (And.intro rfl (And.intro rfl (And.intro rfl (And.intro rfl (And.intro rfl (And.intro rfl (And.intro rfl trivial))))))))))))))))))
        · skip
          clear h
          refine fun q h => ?_
          obtain ⟨j6_11, j6_b3x1_0, j6_b3x1_1⟩ := q
          replace h : ref02_Div_j6 v3_9 v3_b3x0_0 v3_b3x0_1 j6_11 j6_b3x1_0 j6_b3x1_1 = some x1 := h
          delta ref02_Div_j6 at h
          refine Exists.intro none ?_
          refine Exists.intro (CK.plain _ _) (And.intro (Contract.wk (c_ref02_double (api_Wide.mk v3_b3x0_0 v3_b3x0_1) j6_11) (And.intro rfl (And.intro rfl (And.intro rfl trivial)))) (And.intro rfl ?_))
          refine Exists.intro none ?_
          exact Exists.intro [] (Exists.intro [] (Exists.intro (((w64 (v3_9 - (1:Int))), (ref02_double (api_Wide.mk v3_b3x0_0 v3_b3x0_1) j6_11).1.Hi, (ref02_double (api_Wide.mk v3_b3x0_0 v3_b3x0_1) j6_11).1.Lo, j6_b3x1_0, j6_b3x1_1), m1) (And.intro (hl1 ((w64 (v3_9 - (1:Int))), (ref02_double (api_Wide.mk v3_b3x0_0 v3_b3x0_1) j6_11).1.Hi, (ref02_double (api_Wide.mk v3_b3x0_0 v3_b3x0_1) j6_11).1.Lo, j6_b3x1_0, j6_b3x1_1) (Option.some.inj h).symm) (And.intro (Nat.lt_succ_self m1) (And.intro rfl (And.intro rfl (And.intro rfl (And.intro rfl (And.intro rfl (And.intro rfl (And.intro rfl (And.intro rfl (And.intro rfl (And.intro rfl (And.intro rfl (And.intro rfl (And.intro rfl (And.intro rfl trivial))))))))))))))))))
    · skip
      replace h := cF g2 h
      replace h := popS h hr1
      refine Exists.intro none ?_
      replace h := Option.some.inj h
      first | subst h | rw [← h]
      exact (And.intro rfl (And.intro rfl (And.intro rfl (And.intro rfl (And.intro rfl trivial)))))

theorem c_exact_Rank (p0 : (List api_Item)) (p1 : Int) (r : Int) (h : exact_Rank p0 p1 = some r) : Contract Try.prog 36 [.lst 2 false (List.map enc_api_Item p0), .int .i64 p1] [] (.int .i64 r) [] := by
  refine contract_of_vcs tab_ok orders_ok Try.func36 Try.call36 (by kernel_rfl) 0 rfl rfl _ rfl ?_
  delta exact_Rank at h
  refine Exists.intro none ?_
  refine Exists.intro none ?_
  refine Exists.intro none ?_
  refine Exists.intro [.int .i64 (p0.length : Int)] (And.intro (lenS enc_api_Item p0) ?_)
  replace h : exact_Rank_l2 p0 p1 (0:Int) (0:Int) = some r := h
  delta exact_Rank_l2 at h
  obtain ⟨n1, h⟩ := loopS h
  refine Exists.intro ⟨(Int × Int) × Nat, fun q => [(.tmp 1, .av (.int .i64 p1)), (.tmp 5, .av (.int .i64 q.1.1)), (.tmp 8, .av (.lst 2 false (List.map enc_api_Item p0))), (.tmp 9, .av (.int .i64 (p0.length : Int))), (.tmp 10, .av (.int .i64 q.1.2))], fun q => loopN (fun (s : (Int × Int)) => exact_Rank_l2s p0 p1 s.1 s.2) q.2 q.1 = some r, fun q => q.2⟩ (And.intro (Exists.intro [] (Exists.intro [] (Exists.intro (((0:Int), (0:Int)), n1) (And.intro h (And.intro rfl (And.intro rfl (And.intro rfl (And.intro ff (And.intro rfl (And.intro rfl (And.intro rfl trivial))))))))))) ?_)
  clear h
  refine fun q h => ?_
  obtain ⟨⟨v2_5, v2_10⟩, n1⟩ := q
  obtain ⟨m1, x1, hm1, h, hl1, hr1⟩ := loopN_step h
  replace hm1 : n1 = m1 + 1 := hm1
  subst hm1
  replace h : exact_Rank_l2s p0 p1 v2_5 v2_10 = some x1 := h
  delta exact_Rank_l2s at h
  refine Exists.intro none ?_
  refine And.intro (fun g1 => ?_) (fun g1 => ?_)
  · skip
    replace h := cT g1 h
    refine Exists.intro none ?_
    refine Exists.intro none ?_
    obtain ⟨x4_0, e4_0, h⟩ := bS h
    refine Exists.intro [.int .i64 x4_0.T, .int .i64 x4_0.V] (And.intro (idx_map enc_api_Item e4_0) ?_)
    refine Exists.intro none ?_
    refine Exists.intro none ?_
    refine And.intro (fun g2 => ?_) (fun g2 => ?_)
    · skip
      replace h := cT g2 h
      refine Exists.intro none ?_
      refine Exists.intro none ?_
      exact Exists.intro [] (Exists.intro [] (Exists.intro (((w64 (v2_5 + (1:Int))), (w64 (v2_10 + (1:Int)))), m1) (And.intro (hl1 ((w64 (v2_5 + (1:Int))), (w64 (v2_10 + (1:Int)))) (Option.some.inj h).symm) (And.intro (Nat.lt_succ_self m1) (And.intro rfl (And.intro rfl (And.intro rfl (And.intro ff (And.intro rfl (And.intro rfl (And.intro rfl trivial)))))))))))
    · skip
      replace h := cF g2 h
      refine Exists.intro none ?_
      exact Exists.intro [] (Exists.intro [] (Exists.intro ((v2_5, (w64 (v2_10 + (1:Int)))), m1) (And.intro (hl1 (v2_5, (w64 (v2_10 + (1:Int)))) (Option.some.inj h).symm) (And.intro (Nat.lt_succ_self m1) (And.intro rfl (And.intro rfl (And.intro rfl (And.intro ff (And.intro rfl (And.intro rfl (And.intro rfl trivial)))))))))))
  · skip
    replace h := cF g1 h
    replace h := popS h hr1
    refine Exists.intro none ?_
    replace h := Option.some.inj h
    first | subst h | rw [← h]
    exact (And.intro rfl trivial)

theorem c_ref03_Of' (p0 : Int) (r : api_Ratio) (h : ref03_Of p0 = r) : Contract Try.prog 80 [.int .i64 p0] [] (.agg [.int .i64 r.Num, .int .i64 r.Den]) [] := by
  refine contract_of_vcs tab_ok orders_ok Try.func80 Try.call80 (by kernel_rfl) 0 rfl rfl _ rfl ?_
  delta ref03_Of at h
  refine Exists.intro none ?_
  refine Exists.intro none ?_
  first | subst h | rw [← h]
  exact (And.intro rfl (And.intro rfl trivial))
theorem c_ref03_Of (p0 : Int) : Contract Try.prog 80 [.int .i64 p0] [] (.agg [.int .i64 (ref03_Of p0).Num, .int .i64 (ref03_Of p0).Den]) [] := c_ref03_Of' p0 (ref03_Of p0) rfl

theorem c_made_Gap (p0 : Int) (p1 : Int) (r : Int) (h : made_Gap p0 p1 = some r) : Contract Try.prog 67 [.int .i64 p0, .int .i64 p1] [] (.int .i64 r) [] := by
  refine contract_of_vcs tab_ok orders_ok Try.func67 Try.call67 (by kernel_rfl) 0 rfl rfl _ rfl ?_
  delta made_Gap at h
  refine Exists.intro none ?_
  refine Exists.intro none ?_
  refine And.intro (by decide) ?_
  refine Exists.intro none ?_
  obtain ⟨y2_1, e2_1, h⟩ := bS h
  refine Exists.intro (CK.plain _ _) (And.intro (Contract.wk (c_made_Mod p0 (8:Int) y2_1 e2_1) (And.intro rfl (And.intro rfl trivial))) (And.intro rfl ?_))
  refine Exists.intro none ?_
  refine Exists.intro none ?_
  refine Exists.intro none ?_
  refine And.intro (fun g1 => ?_) (fun g1 => ?_)
  · skip
    replace h := cT g1 h
    refine Exists.intro none ?_
    obtain ⟨y4_4, e4_4, h⟩ := bS h
    refine Exists.intro (CK.plain _ _) (And.intro (Contract.wk (c_made_Mod (w64 (Int.tdiv p0 (8:Int))) (w64 ((w64 ((2:Int) * p1)) + (2:Int))) y4_4 e4_4) (And.intro rfl (And.intro rfl trivial))) (And.intro rfl ?_))
    replace h := Option.some.inj h
    first | subst h | rw [← h]
    exact (And.intro rfl trivial)
  · skip
    replace h := cF g1 h
    refine Exists.intro none ?_
    refine Exists.intro (some (⟨Bool, fun j3_17 => [(.tmp 5, .av (.int .i64 (w64 (Int.tdiv p0 (8:Int))))), (.tmp 17, .av (.sb j3_17))], fun j3_17 => made_Gap_j3 p0 j3_17 = some r, fun _ => 0⟩, 1000000)) (And.intro ?_ ?_)
    · skip
      refine And.intro (fun g2 => ?_) (fun g2 => ?_)
      · skip
        replace h := cT g2 h
        exact Exists.intro [] (Exists.intro [] (Exists.intro (y2_1 == (1:Int)) (And.intro h (And.intro rfl (And.intro rfl (And.intro (Eq.symm g2) trivial))))))
      · skip
        replace h := cF g2 h
        refine Exists.intro none ?_
        exact Exists.intro [] (Exists.intro [] (Exists.intro (y2_1 == (2:Int)) (And.intro h (And.intro rfl (And.intro rfl (And.intro rfl trivial))))))
    · skip
      clear h
      refine fun j3_17 h => ?_
      replace h : made_Gap_j3 p0 j3_17 = some r := h
      delta made_Gap_j3 at h
      refine And.intro (fun g3 => ?_) (fun g3 => ?_)
      · skip
        replace h := cT g3 h
        refine Exists.intro none ?_
        obtain ⟨y7_1, e7_1, h⟩ := bS h
        refine Exists.intro (CK.plain _ _) (And.intro (Contract.wk (c_made_Mod (w64 (Int.tdiv p0 (8:Int))) (3:Int) y7_1 e7_1) (And.intro rfl (And.intro rfl trivial))) (And.intro rfl ?_))
        replace h := Option.some.inj h
        first | subst h | rw [← h]
        exact (And.intro rfl trivial)
      · skip
        replace h := cF g3 h
        refine Exists.intro none ?_
        replace h := Option.some.inj h
        first | subst h | rw [← h]
        exact (And.intro rfl trivial)

theorem c_made_Items (p0 : (List api_Item)) (p1 : Int) (p2 : Int) (r : (List api_Item)) (h : made_Items p0 p1 p2 = some r) : Contract Try.prog 42 [.lst 2 false (List.map enc_api_Item p0), .int .i64 p1, .int .i64 p2] [] (.lst 2 false (List.map enc_api_Item r)) [] := by
  refine contract_of_vcs tab_ok orders_ok Try.func42 Try.call42 (by kernel_rfl) 0 rfl rfl _ rfl ?_
  delta made_Items at h
  refine Exists.intro none ?_
  refine Exists.intro none ?_
  refine Exists.intro none ?_
  refine Exists.intro none ?_
  replace h : made_Items_l2 p0 p1 p2 ([] : List api_Item) (0:Int) (0:Int) = some r := h
  delta made_Items_l2 at h
  obtain ⟨n1, h⟩ := loopS h
  refine Exists.intro ⟨((List api_Item) × Int × Int) × Nat, fun q => [(.tmp 0, .av (.lst 2 false (List.map enc_api_Item p0))), (.tmp 1, .av (.int .i64 p1)), (.tmp 2, .av (.int .i64 p2)), (.tmp 7, .av (.own 1023)), (.tmp 8, .av (.int .i64 q.1.2.1)), (.tmp 9, .av (.int .i64 q.1.2.2)), (.tok 1023, .tok 48 2 (List.map enc_api_Item q.1.1))], fun q => loopN (fun (s : ((List api_Item) × Int × Int)) => made_Items_l2s p0 p1 p2 s.1 s.2.1 s.2.2) q.2 q.1 = some r, fun q => q.2⟩ (And.intro (Exists.intro [(1023, none)] (Exists.intro [] (Exists.intro ((([] : List api_Item), (0:Int), (0:Int)), n1) (And.intro h (And.intro rfl (And.intro ff (And.intro rfl (And.intro rfl (And.intro rfl (And.intro rfl (And.intro rfl (And.intro rfl trivial)))))))))))) ?_)
  clear h
  refine fun q h => ?_
  obtain ⟨⟨v2_7, v2_8, v2_9⟩, n1⟩ := q
  obtain ⟨m1, x1, hm1, h, hl1, hr1⟩ := loopN_step h
  replace hm1 : n1 = m1 + 1 := hm1
  subst hm1
  replace h : made_Items_l2s p0 p1 p2 v2_7 v2_8 v2_9 = some x1 := h
  delta made_Items_l2s at h
  refine Exists.intro none ?_
  refine Exists.intro (some (⟨Unit, fun _ => [(.tmp 0, .av (.lst 2 false (List.map enc_api_Item p0))), (.tmp 1, .av (.int .i64 p1)), (.tmp 2, .av (.int .i64 p2)), (.tmp 7, .av (.own 1023)), (.tmp 8, .av (.int .i64 v2_8)), (.tmp 9, .av (.int .i64 v2_9)), (.tmp 18, .av (.sb ((decide (v2_9 < (p0.length : Int))) && (decide (v2_9 < p2))))), (.tok 1023, .tok 48 2 (List.map enc_api_Item v2_7))], fun _ => True, fun _ => 0⟩, 1000000)) (And.intro ?_ (fun _ _ => ?_))
  · skip
    refine Exists.intro [.int .i64 (p0.length : Int)] (And.intro (lenS enc_api_Item p0) ?_)
    refine And.intro (fun g1 => ?_) (fun g1 => ?_)
    · skip
      exact Exists.intro [] (Exists.intro [] (Exists.intro () (And.intro trivial (And.intro rfl (And.intro ff (And.intro rfl (And.intro rfl (And.intro rfl (And.intro rfl (And.intro rfl (And.intro (Eq.symm (aR g1 rfl)) (And.intro rfl trivial))))))))))))
    · skip
      exact Exists.intro [] (Exists.intro [] (Exists.intro () (And.intro trivial (And.intro rfl (And.intro ff (And.intro rfl (And.intro rfl (And.intro rfl (And.intro rfl (And.intro rfl (And.intro (Eq.symm (aL g1)) (And.intro rfl trivial))))))))))))
  · skip
    refine And.intro (fun g2 => ?_) (fun g2 => ?_)
    · skip
      replace h := cT g2 h
      refine Exists.intro none ?_
      obtain ⟨x6_3, e6_3, h⟩ := bS h
      obtain ⟨y6_7, e6_7, h⟩ := bS h
      refine Exists.intro [.int .i64 x6_3.T, .int .i64 x6_3.V] (And.intro (idx_map enc_api_Item e6_3) ?_)
      refine Exists.intro (CK.plain _ _) (And.intro (Contract.wk (c_made_Gap x6_3.T p1 y6_7 e6_7) (And.intro rfl (And.intro rfl trivial))) (And.intro rfl ?_))
      refine Exists.intro none ?_
      obtain ⟨x7_4, e7_4, h⟩ := bS h
      obtain ⟨y7_7, e7_7, h⟩ := bS h
      obtain ⟨k7_10, h⟩ := ckS h
      refine Exists.intro [.int .i64 x7_4.T, .int .i64 x7_4.V] (And.intro (idx_map enc_api_Item e7_4) ?_)
      refine Exists.intro (CK.plain _ _) (And.intro (Contract.wk (c_made_Value x7_4.V y7_7 e7_7) (And.intro rfl trivial)) (And.intro rfl ?_))
      refine And.intro (by have hh := (of_decide_eq_true k7_10); (try simp only [encZ, fixRows_length, List.length_map, List.length_append, List.length_take, List.length_drop, List.length_set, List.length_replicate, List.length_cons, List.length_nil] at hh); (try simp only [encZ, fixRows_length, List.length_map, List.length_append, List.length_take, List.length_drop, List.length_set, List.length_replicate, List.length_cons, List.length_nil]); (try simp only [w64, wu64] at hh); (try simp only [w64, wu64]); omega) ?_
      refine Exists.intro none ?_
      exact Exists.intro [(1023, some 1000266)] (Exists.intro [] (Exists.intro (((v2_7 ++ [(api_Item.mk (w64 (v2_8 + y6_7)) y7_7)]), (w64 (v2_8 + y6_7)), (w64 (v2_9 + (1:Int)))), m1) (And.intro (hl1 ((v2_7 ++ [(api_Item.mk (w64 (v2_8 + y6_7)) y7_7)]), (w64 (v2_8 + y6_7)), (w64 (v2_9 + (1:Int)))) (Option.some.inj h).symm) (And.intro (Nat.lt_succ_self m1) (And.intro rfl (And.intro ff (And.intro rfl (And.intro rfl (And.intro rfl (And.intro rfl (And.intro rfl (And.intro (by first | rfl | (simp only [encZ, List.map_append, List.map_cons, List.map_nil, List.map_take, List.map_drop, List.map_set, List.map_replicate]; done) | (simp only [encZ, List.map_append, List.map_cons, List.map_nil, List.map_take, List.map_drop, List.map_set, List.map_replicate]; rfl) | (simp only [encZ, List.map_append, List.map_cons, List.map_nil, List.map_take, List.map_drop, List.map_set, List.map_replicate, eL, enc_api_Ranks, enc_api_Recent, enc_api_Answer]; done) | (simp only [encZ, List.map_append, List.map_cons, List.map_nil, List.map_take, List.map_drop, List.map_set, List.map_replicate, eL, enc_api_Ranks, enc_api_Recent, enc_api_Answer]; rfl)) trivial))))))))))))
    · skip
      replace h := cF g2 h
      replace h := popS h hr1
      refine Exists.intro none ?_
      replace h := Option.some.inj h
      first | subst h | rw [← h]
      exact (And.intro ff (And.intro rfl trivial))

theorem c_made_Live (p0 : (List api_Item)) (p1 : Int) (p2 : Int) (r : (List api_Item)) (h : made_Live p0 p1 p2 = some r) : Contract Try.prog 43 [.lst 2 false (List.map enc_api_Item p0), .int .i64 p1, .int .i64 p2] [] (.lst 2 false (List.map enc_api_Item r)) [] := by
  refine contract_of_vcs tab_ok orders_ok Try.func43 Try.call43 (by kernel_rfl) 0 rfl rfl _ rfl ?_
  delta made_Live at h
  refine Exists.intro none ?_
  refine Exists.intro none ?_
  refine Exists.intro none ?_
  refine Exists.intro [.int .i64 (p0.length : Int)] (And.intro (lenS enc_api_Item p0) ?_)
  replace h : made_Live_l2 p0 p1 p2 ([] : List api_Item) (0:Int) = some r := h
  delta made_Live_l2 at h
  obtain ⟨n1, h⟩ := loopS h
  refine Exists.intro ⟨((List api_Item) × Int) × Nat, fun q => [(.tmp 1, .av (.int .i64 p1)), (.tmp 2, .av (.int .i64 p2)), (.tmp 7, .av (.own 767)), (.tmp 10, .av (.lst 2 false (List.map enc_api_Item p0))), (.tmp 11, .av (.int .i64 (p0.length : Int))), (.tmp 12, .av (.int .i64 q.1.2)), (.tok 767, .tok 48 2 (List.map enc_api_Item q.1.1))], fun q => loopN (fun (s : ((List api_Item) × Int)) => made_Live_l2s p0 p1 p2 s.1 s.2) q.2 q.1 = some r, fun q => q.2⟩ (And.intro (Exists.intro [(767, none)] (Exists.intro [] (Exists.intro ((([] : List api_Item), (0:Int)), n1) (And.intro h (And.intro rfl (And.intro rfl (And.intro rfl (And.intro ff (And.intro rfl (And.intro rfl (And.intro rfl (And.intro rfl trivial)))))))))))) ?_)
  clear h
  refine fun q h => ?_
  obtain ⟨⟨v2_7, v2_12⟩, n1⟩ := q
  obtain ⟨m1, x1, hm1, h, hl1, hr1⟩ := loopN_step h
  replace hm1 : n1 = m1 + 1 := hm1
  subst hm1
  replace h : made_Live_l2s p0 p1 p2 v2_7 v2_12 = some x1 := h
  delta made_Live_l2s at h
  refine Exists.intro none ?_
  refine And.intro (fun g1 => ?_) (fun g1 => ?_)
  · skip
    replace h := cT g1 h
    refine Exists.intro none ?_
    refine Exists.intro none ?_
    obtain ⟨x4_0, e4_0, h⟩ := bS h
    refine Exists.intro [.int .i64 x4_0.T, .int .i64 x4_0.V] (And.intro (idx_map enc_api_Item e4_0) ?_)
    refine Exists.intro none ?_
    refine Exists.intro (some (⟨Unit, fun _ => [(.tmp 1, .av (.int .i64 p1)), (.tmp 2, .av (.int .i64 p2)), (.tmp 7, .av (.own 767)), (.tmp 9, .av (.ptr 1026 0)), (.tmp 10, .av (.lst 2 false (List.map enc_api_Item p0))), (.tmp 11, .av (.int .i64 (p0.length : Int))), (.tmp 12, .av (.int .i64 v2_12)), (.tmp 27, .av (.sb ((decide (x4_0.T > (w64 (p1 - p2)))) && (decide (x4_0.T ≤ p1))))), (.box 1026, .box [.int .i64 x4_0.T, .int .i64 x4_0.V]), (.tok 767, .tok 48 2 (List.map enc_api_Item v2_7))], fun _ => True, fun _ => 0⟩, 1000000)) (And.intro ?_ (fun _ _ => ?_))
    · skip
      refine And.intro (fun g2 => ?_) (fun g2 => ?_)
      · skip
        exact Exists.intro [] (Exists.intro [] (Exists.intro () (And.intro trivial (And.intro rfl (And.intro rfl (And.intro rfl (And.intro ff (And.intro rfl (And.intro rfl (And.intro rfl (And.intro (Eq.symm (aR g2 rfl)) (And.intro rfl (And.intro rfl (And.intro rfl trivial))))))))))))))
      · skip
        exact Exists.intro [] (Exists.intro [] (Exists.intro () (And.intro trivial (And.intro rfl (And.intro rfl (And.intro rfl (And.intro ff (And.intro rfl (And.intro rfl (And.intro rfl (And.intro (Eq.symm (aL g2)) (And.intro rfl (And.intro rfl (And.intro rfl trivial))))))))))))))
    · skip
      refine Exists.intro none ?_
      refine And.intro (fun g3 => ?_) (fun g3 => ?_)
      · skip
        replace h := cT g3 h
        refine Exists.intro none ?_
        obtain ⟨k6_3, h⟩ := ckS h
        refine And.intro (by have hh := (of_decide_eq_true k6_3); (try simp only [encZ, fixRows_length, List.length_map, List.length_append, List.length_take, List.length_drop, List.length_set, List.length_replicate, List.length_cons, List.length_nil] at hh); (try simp only [encZ, fixRows_length, List.length_map, List.length_append, List.length_take, List.length_drop, List.length_set, List.length_replicate, List.length_cons, List.length_nil]); (try simp only [w64, wu64] at hh); (try simp only [w64, wu64]); omega) ?_
        refine Exists.intro none ?_
        exact Exists.intro [(767, some 1000003)] (Exists.intro [] (Exists.intro (((v2_7 ++ [x4_0]), (w64 (v2_12 + (1:Int)))), m1) (And.intro (hl1 ((v2_7 ++ [x4_0]), (w64 (v2_12 + (1:Int)))) (Option.some.inj h).symm) (And.intro (Nat.lt_succ_self m1) (And.intro rfl (And.intro rfl (And.intro rfl (And.intro ff (And.intro rfl (And.intro rfl (And.intro rfl (And.intro (by first | rfl | (simp only [encZ, List.map_append, List.map_cons, List.map_nil, List.map_take, List.map_drop, List.map_set, List.map_replicate]; done) | (simp only [encZ, List.map_append, List.map_cons, List.map_nil, List.map_take, List.map_drop, List.map_set, List.map_replicate]; rfl) | (simp only [encZ, List.map_append, List.map_cons, List.map_nil, List.map_take, List.map_drop, List.map_set, List.map_replicate, eL, enc_api_Ranks, enc_api_Recent, enc_api_Answer]; done) | (simp only [encZ, List.map_append, List.map_cons, List.map_nil, List.map_take, List.map_drop, List.map_set, List.map_replicate, eL, enc_api_Ranks, enc_api_Recent, enc_api_Answer]; rfl)) trivial))))))))))))
      · skip
        replace h := cF g3 h
        refine Exists.intro none ?_
        exact Exists.intro [] (Exists.intro [] (Exists.intro ((v2_7, (w64 (v2_12 + (1:Int)))), m1) (And.intro (hl1 (v2_7, (w64 (v2_12 + (1:Int)))) (Option.some.inj h).symm) (And.intro (Nat.lt_succ_self m1) (And.intro rfl (And.intro rfl (And.intro rfl (And.intro ff (And.intro rfl (And.intro rfl (And.intro rfl (And.intro rfl trivial))))))))))))
  · skip
    replace h := cF g1 h
    replace h := popS h hr1
    refine Exists.intro none ?_
    replace h := Option.some.inj h
    first | subst h | rw [← h]
    exact (And.intro ff (And.intro rfl trivial))

theorem c_exact_size' (p0 : Int) (r : Int) (h : exact_size p0 = r) : Contract Try.prog 70 [.int .i64 p0] [] (.int .u64 r) [] := by
  refine contract_of_vcs tab_ok orders_ok Try.func70 Try.call70 (by kernel_rfl) 0 rfl rfl _ rfl ?_
  delta exact_size at h
  refine Exists.intro none ?_
  refine Exists.intro none ?_
  refine And.intro (fun g1 => ?_) (fun g1 => ?_)
  · skip
    replace h := cT g1 h
    refine Exists.intro none ?_
    first | subst h | rw [← h]
    exact (And.intro rfl trivial)
  · skip
    replace h := cF g1 h
    refine Exists.intro none ?_
    first | subst h | rw [← h]
    exact (And.intro rfl trivial)
theorem c_exact_size (p0 : Int) : Contract Try.prog 70 [.int .i64 p0] [] (.int .u64 (exact_size p0)) [] := c_exact_size' p0 (exact_size p0) rfl

theorem c_math_bits_Add64 (p0 p1 p2 : Int) (r : (Int × Int)) (h : math_bits_Add64 p0 p1 p2 = some r) : Contract Try.prog 100 [.int .u64 p0, .int .u64 p1, .int .u64 p2] [] (.tup [.int .u64 r.1, .int .u64 r.2]) [] :=
  ext_Add64 Try.func100 (by kernel_rfl) (by kernel_rfl) (by kernel_rfl) (by kernel_rfl) p0 p1 p2 r h

theorem c_wide_Add (p0 : api_Wide) (p1 : api_Wide) (r : (api_Wide × Bool)) (h : wide_Add p0 p1 = some r) : Contract Try.prog 98 [.agg [.int .u64 p0.Hi, .int .u64 p0.Lo], .agg [.int .u64 p1.Hi, .int .u64 p1.Lo]] [] (.tup [.agg [.int .u64 r.1.Hi, .int .u64 r.1.Lo], .sb r.2]) [] := by
  refine contract_of_vcs tab_ok orders_ok Try.func98 Try.call98 (by kernel_rfl) 0 rfl rfl _ rfl ?_
  delta wide_Add at h
  refine Exists.intro none ?_
  refine Exists.intro none ?_
  obtain ⟨y1_4, e1_4, h⟩ := bS h
  refine Exists.intro (CK.plain _ _) (And.intro (Contract.wk (c_math_bits_Add64 p0.Lo p1.Lo (0:Int) y1_4 e1_4) (And.intro rfl (And.intro rfl (And.intro rfl trivial)))) (And.intro rfl ?_))
  refine Exists.intro none ?_
  obtain ⟨y2_5, e2_5, h⟩ := bS h
  refine Exists.intro (CK.plain _ _) (And.intro (Contract.wk (c_math_bits_Add64 p0.Hi p1.Hi y1_4.2 y2_5 e2_5) (And.intro rfl (And.intro rfl (And.intro rfl trivial)))) (And.intro rfl ?_))
  refine Exists.intro none ?_
  refine And.intro (fun g1 => ?_) (fun g1 => ?_)
  · skip
    replace h := cT g1 h
    refine Exists.intro none ?_
    replace h := Option.some.inj h
    first | subst h | rw [← h]
    exact (And.intro rfl (And.intro rfl (And.intro rfl trivial)))
  · skip
    replace h := cF g1 h
    refine Exists.intro none ?_
    replace h := Option.some.inj h
    first | subst h | rw [← h]
    exact (And.intro rfl (And.intro rfl (And.intro rfl trivial)))

theorem c_wide_Sub (p0 : api_Wide) (p1 : api_Wide) (r : (api_Wide × Bool)) (h : wide_Sub p0 p1 = some r) : Contract Try.prog 99 [.agg [.int .u64 p0.Hi, .int .u64 p0.Lo], .agg [.int .u64 p1.Hi, .int .u64 p1.Lo]] [] (.tup [.agg [.int .u64 r.1.Hi, .int .u64 r.1.Lo], .sb r.2]) [] := by
  refine contract_of_vcs tab_ok orders_ok Try.func99 Try.call99 (by kernel_rfl) 0 rfl rfl _ rfl ?_
  delta wide_Sub at h
  refine Exists.intro none ?_
  refine Exists.intro none ?_
  obtain ⟨y1_4, e1_4, h⟩ := bS h
  refine Exists.intro (CK.plain _ _) (And.intro (Contract.wk (c_math_bits_Sub64 p0.Lo p1.Lo (0:Int) y1_4 e1_4) (And.intro rfl (And.intro rfl (And.intro rfl trivial)))) (And.intro rfl ?_))
  refine Exists.intro none ?_
  obtain ⟨y2_5, e2_5, h⟩ := bS h
  refine Exists.intro (CK.plain _ _) (And.intro (Contract.wk (c_math_bits_Sub64 p0.Hi p1.Hi y1_4.2 y2_5 e2_5) (And.intro rfl (And.intro rfl (And.intro rfl trivial)))) (And.intro rfl ?_))
  refine Exists.intro none ?_
  refine And.intro (fun g1 => ?_) (fun g1 => ?_)
  · skip
    replace h := cT g1 h
    refine Exists.intro none ?_
    replace h := Option.some.inj h
    first | subst h | rw [← h]
    exact (And.intro rfl (And.intro rfl (And.intro rfl trivial)))
  · skip
    replace h := cF g1 h
    refine Exists.intro none ?_
    replace h := Option.some.inj h
    first | subst h | rw [← h]
    exact (And.intro rfl (And.intro rfl (And.intro rfl trivial)))

theorem c_exact_total (p0 : (List api_Item)) (r : (Bool × api_Wide)) (h : exact_total p0 = some r) : Contract Try.prog 68 [.lst 2 false (List.map enc_api_Item p0)] [] (.tup [.sb r.1, .agg [.int .u64 r.2.Hi, .int .u64 r.2.Lo]]) [] := by
  refine contract_of_vcs tab_ok orders_ok Try.func68 Try.call68 (by kernel_rfl) 0 rfl rfl _ rfl ?_
  delta exact_total at h
  refine Exists.intro none ?_
  refine Exists.intro none ?_
  refine Exists.intro none ?_
  refine Exists.intro [.int .i64 (p0.length : Int)] (And.intro (lenS enc_api_Item p0) ?_)
  replace h : exact_total_l2 p0 (0:Int) (0:Int) (0:Int) (0:Int) (0:Int) = some r := h
  delta exact_total_l2 at h
  obtain ⟨n1, h⟩ := loopS h
  refine Exists.intro ⟨(Int × Int × Int × Int × Int) × Nat, fun q => [(.tmp 3, .av (.ptr 1 0)), (.tmp 4, .av (.ptr 256 0)), (.tmp 5, .av (.ptr 257 0)), (.tmp 12, .av (.lst 2 false (List.map enc_api_Item p0))), (.tmp 13, .av (.int .i64 (p0.length : Int))), (.tmp 14, .av (.int .i64 q.1.1)), (.box 1, .box [.int .u64 (0:Int), .int .u64 (0:Int)]), (.box 256, .box [.int .u64 q.1.2.1, .int .u64 q.1.2.2.1]), (.box 257, .box [.int .u64 q.1.2.2.2.1, .int .u64 q.1.2.2.2.2])], fun q => loopN (fun (s : (Int × Int × Int × Int × Int)) => exact_total_l2s p0 s.1 s.2.1 s.2.2.1 s.2.2.2.1 s.2.2.2.2) q.2 q.1 = some r, fun q => q.2⟩ (And.intro (Exists.intro [] (Exists.intro [] (Exists.intro (((0:Int), (0:Int), (0:Int), (0:Int), (0:Int)), n1) (And.intro h (And.intro rfl (And.intro ff (And.intro rfl (And.intro rfl (And.intro rfl (And.intro rfl (And.intro rfl (And.intro rfl (And.intro rfl (And.intro rfl (And.intro rfl trivial))))))))))))))) ?_)
  clear h
  refine fun q h => ?_
  obtain ⟨⟨v2_14, v2_b1x0_0, v2_b1x0_1, v2_b1x1_0, v2_b1x1_1⟩, n1⟩ := q
  obtain ⟨m1, x1, hm1, h, hl1, hr1⟩ := loopN_step h
  replace hm1 : n1 = m1 + 1 := hm1
  subst hm1
  replace h : exact_total_l2s p0 v2_14 v2_b1x0_0 v2_b1x0_1 v2_b1x1_0 v2_b1x1_1 = some x1 := h
  delta exact_total_l2s at h
  refine Exists.intro none ?_
  refine And.intro (fun g1 => ?_) (fun g1 => ?_)
  · skip
    replace h := cT g1 h
    refine Exists.intro none ?_
    refine Exists.intro none ?_
    obtain ⟨x4_0, e4_0, h⟩ := bS h
    refine Exists.intro [.int .i64 x4_0.T, .int .i64 x4_0.V] (And.intro (idx_map enc_api_Item e4_0) ?_)
    refine Exists.intro none ?_
    refine Exists.intro none ?_
    refine And.intro (fun g2 => ?_) (fun g2 => ?_)
    · skip
      replace h := cT g2 h
      refine Exists.intro none ?_
      obtain ⟨y6_5, e6_5, h⟩ := bS h
      refine Exists.intro (CK.plain _ _) (And.intro (Contract.wk (c_exact_size x4_0.V) (And.intro rfl trivial)) (And.intro rfl ?_))
      refine Exists.intro (CK.plain _ _) (And.intro (Contract.wk (c_wide_Of (exact_size x4_0.V)) (And.intro rfl trivial)) (And.intro rfl ?_))
      refine Exists.intro (CK.plain _ _) (And.intro (Contract.wk (c_wide_Add (api_Wide.mk v2_b1x1_0 v2_b1x1_1) (wide_Of (exact_size x4_0.V)) y6_5 e6_5) (And.intro rfl (And.intro rfl (And.intro rfl (And.intro rfl trivial))))) (And.intro rfl ?_))
      refine Exists.intro none ?_
      exact Exists.intro [] (Exists.intro [] (Exists.intro (((w64 (v2_14 + (1:Int))), v2_b1x0_0, v2_b1x0_1, y6_5.1.Hi, y6_5.1.Lo), m1) (And.intro (hl1 ((w64 (v2_14 + (1:Int))), v2_b1x0_0, v2_b1x0_1, y6_5.1.Hi, y6_5.1.Lo) (Option.some.inj h).symm) (And.intro (Nat.lt_succ_self m1) (And.intro rfl (And.intro ff (And.intro rfl (And.intro rfl (And.intro rfl (And.intro rfl (And.intro rfl (And.intro rfl (And.intro rfl (And.intro rfl (And.intro rfl trivial)))))))))))))))
    · skip
      replace h := cF g2 h
      refine Exists.intro none ?_
      obtain ⟨y7_5, e7_5, h⟩ := bS h
      refine Exists.intro (CK.plain _ _) (And.intro (Contract.wk (c_exact_size x4_0.V) (And.intro rfl trivial)) (And.intro rfl ?_))
      refine Exists.intro (CK.plain _ _) (And.intro (Contract.wk (c_wide_Of (exact_size x4_0.V)) (And.intro rfl trivial)) (And.intro rfl ?_))
      refine Exists.intro (CK.plain _ _) (And.intro (Contract.wk (c_wide_Add (api_Wide.mk v2_b1x0_0 v2_b1x0_1) (wide_Of (exact_size x4_0.V)) y7_5 e7_5) (And.intro rfl (And.intro rfl (And.intro rfl (And.intro rfl trivial))))) (And.intro rfl ?_))
      refine Exists.intro none ?_
      exact Exists.intro [] (Exists.intro [] (Exists.intro (((w64 (v2_14 + (1:Int))), y7_5.1.Hi, y7_5.1.Lo, v2_b1x1_0, v2_b1x1_1), m1) (And.intro (hl1 ((w64 (v2_14 + (1:Int))), y7_5.1.Hi, y7_5.1.Lo, v2_b1x1_0, v2_b1x1_1) (Option.some.inj h).symm) (And.intro (Nat.lt_succ_self m1) (And.intro rfl (And.intro ff (And.intro rfl (And.intro rfl (And.intro rfl (And.intro rfl (And.intro rfl (And.intro rfl (And.intro rfl (And.intro rfl (And.intro rfl trivial)))))))))))))))
  · skip
    replace h := cF g1 h
    replace h := popS h hr1
    refine Exists.intro none ?_
    refine Exists.intro (CK.plain _ _) (And.intro (Contract.wk (c_wide_Compare (api_Wide.mk v2_b1x0_0 v2_b1x0_1) (api_Wide.mk v2_b1x1_0 v2_b1x1_1)) (And.intro rfl (And.intro rfl (And.intro rfl (And.intro rfl trivial))))) (And.intro rfl ?_))
    refine And.intro (fun g3 => ?_) (fun g3 => ?_)
    · skip
      replace h := cT g3 h
      refine Exists.intro none ?_
      obtain ⟨y10_2, e10_2, h⟩ := bS h
      refine Exists.intro (CK.plain _ _) (And.intro (Contract.wk (c_wide_Sub (api_Wide.mk v2_b1x0_0 v2_b1x0_1) (api_Wide.mk v2_b1x1_0 v2_b1x1_1) y10_2 e10_2) (And.intro rfl (And.intro rfl (And.intro rfl (And.intro rfl trivial))))) (And.intro rfl ?_))
      refine Exists.intro none ?_
      replace h := Option.some.inj h
      first | subst h | rw [← h]
      exact (And.intro rfl (And.intro rfl (And.intro rfl trivial)))
    · skip
      replace h := cF g3 h
      refine Exists.intro none ?_
      obtain ⟨y12_2, e12_2, h⟩ := bS h
      refine Exists.intro (CK.plain _ _) (And.intro (Contract.wk (c_wide_Sub (api_Wide.mk v2_b1x1_0 v2_b1x1_1) (api_Wide.mk v2_b1x0_0 v2_b1x0_1) y12_2 e12_2) (And.intro rfl (And.intro rfl (And.intro rfl (And.intro rfl trivial))))) (And.intro rfl ?_))
      refine Exists.intro none ?_
      replace h := Option.some.inj h
      first | subst h | rw [← h]
      exact (And.intro rfl (And.intro rfl (And.intro rfl trivial)))

theorem c_exact_Sum (p0 : (List api_Item)) (r : (Int × Bool)) (h : exact_Sum p0 = some r) : Contract Try.prog 44 [.lst 2 false (List.map enc_api_Item p0)] [] (.tup [.int .i64 r.1, .sb r.2]) [] := by
  refine contract_of_vcs tab_ok orders_ok Try.func44 Try.call44 (by kernel_rfl) 0 rfl rfl _ rfl ?_
  delta exact_Sum at h
  refine Exists.intro none ?_
  refine Exists.intro none ?_
  obtain ⟨y1_1, e1_1, h⟩ := bS h
  refine Exists.intro (CK.plain _ _) (And.intro (Contract.wk (c_exact_total p0 y1_1 e1_1) (And.intro ff (And.intro rfl trivial))) (And.intro rfl ?_))
  refine Exists.intro none ?_
  refine Exists.intro (some (⟨Unit, fun _ => [(.tmp 4, .av (.sb y1_1.1)), (.tmp 5, .av (.ptr 261 0)), (.tmp 27, .av (.sb (((y1_1.2.Hi != (0:Int)) || (decide (y1_1.2.Lo > (9223372036854775808:Int)))) || ((y1_1.2.Lo == (9223372036854775808:Int)) && (!y1_1.1))))), (.box 261, .box [.int .u64 y1_1.2.Hi, .int .u64 y1_1.2.Lo])], fun _ => True, fun _ => 0⟩, 1000000)) (And.intro ?_ (fun _ _ => ?_))
  · skip
    refine And.intro (fun g1 => ?_) (fun g1 => ?_)
    · skip
      refine And.intro (fun g2 => ?_) (fun g2 => ?_)
      · skip
        refine And.intro (fun g3 => ?_) (fun g3 => ?_)
        · skip
          exact Exists.intro [] (Exists.intro [] (Exists.intro () (And.intro trivial (And.intro rfl (And.intro rfl (And.intro (Eq.symm (oR (oR g1 g2) (aR g3 rfl))) (And.intro rfl (And.intro rfl trivial))))))))
        · skip
          exact Exists.intro [] (Exists.intro [] (Exists.intro () (And.intro trivial (And.intro rfl (And.intro rfl (And.intro (Eq.symm (oR (oR g1 g2) (aL g3))) (And.intro rfl (And.intro rfl trivial))))))))
      · skip
        exact Exists.intro [] (Exists.intro [] (Exists.intro () (And.intro trivial (And.intro rfl (And.intro rfl (And.intro (Eq.symm (oL (oR g1 g2))) (And.intro rfl (And.intro rfl trivial))))))))
    · skip
      exact Exists.intro [] (Exists.intro [] (Exists.intro () (And.intro trivial (And.intro rfl (And.intro rfl (And.intro (Eq.symm (oL (oL g1))) (And.intro rfl (And.intro rfl trivial))))))))
  · skip
    refine And.intro (fun g4 => ?_) (fun g4 => ?_)
    · skip
      replace h := cT g4 h
      refine Exists.intro none ?_
      replace h := Option.some.inj h
      first | subst h | rw [← h]
      exact (And.intro rfl (And.intro rfl trivial))
    · skip
      replace h := cF g4 h
      refine Exists.intro none ?_
      refine And.intro (fun g5 => ?_) (fun g5 => ?_)
      · skip
        replace h := cT g5 h
        refine Exists.intro none ?_
        replace h := Option.some.inj h
        first | subst h | rw [← h]
        exact (And.intro rfl (And.intro rfl trivial))
      · skip
        replace h := cF g5 h
        refine Exists.intro none ?_
        replace h := Option.some.inj h
        first | subst h | rw [← h]
        exact (And.intro rfl (And.intro rfl trivial))

theorem c_exact_quad_times (p0 : exact_quad) (p1 : Int) (p2 : Int) (p3 : Int) (r : exact_quad) (h : exact_quad_times p0 p1 p2 p3 = some r) : Contract Try.prog 69 [.ptr 0 0, .int .u64 p1, .int .u64 p2, .int .i64 p3] [[.int .u64 p0.e0, .int .u64 p0.e1, .int .u64 p0.e2, .int .u64 p0.e3]] (.tup []) [[.int .u64 r.e0, .int .u64 r.e1, .int .u64 r.e2, .int .u64 r.e3]] := by
  refine contract_of_vcs tab_ok orders_ok Try.func69 Try.call69 (by kernel_rfl) 1 rfl rfl _ rfl ?_
  delta exact_quad_times at h
  refine Exists.intro none ?_
  refine Exists.intro (CK.plain _ _) (And.intro (Contract.wk (c_math_bits_Mul64 p1 p2) (And.intro rfl (And.intro rfl trivial))) (And.intro rfl ?_))
  refine Exists.intro none ?_
  refine Exists.intro none ?_
  obtain ⟨x2_5, e2_5, h⟩ := bS h
  obtain ⟨x2_6, e2_6, h⟩ := bS h
  obtain ⟨y2_8, e2_8, h⟩ := bS h
  obtain ⟨x2_13, e2_13, h⟩ := bS h
  obtain ⟨x2_14, e2_14, h⟩ := bS h
  refine And.intro (idx_lt (eI .u64) e2_5) ?_
  refine Exists.intro [.int .u64 x2_6] (And.intro (idx_elt (eI .u64) e2_6) ?_)
  refine Exists.intro (CK.plain _ _) (And.intro (Contract.wk (c_math_bits_Add64 x2_6 (math_bits_Mul64 p1 p2).2 (0:Int) y2_8 e2_8) (And.intro rfl (And.intro rfl (And.intro rfl trivial)))) (And.intro rfl ?_))
  refine And.intro (idx_lt (eI .u64) e2_13) ?_
  refine And.intro (idx_ltN (AV.int .u64) e2_14) ?_
  refine Exists.intro none ?_
  replace h : exact_quad_times_l2 (math_bits_Mul64 p1 p2).1 y2_8.2 (w64 (p3 + (1:Int))) (if (p3).toNat = 0 then y2_8.1 else p0.e0) (if (p3).toNat = 1 then y2_8.1 else p0.e1) (if (p3).toNat = 2 then y2_8.1 else p0.e2) (if (p3).toNat = 3 then y2_8.1 else p0.e3) = some r := h
  delta exact_quad_times_l2 at h
  obtain ⟨n1, h⟩ := loopS h
  refine Exists.intro ⟨(Int × Int × Int × Int × Int × Int × Int) × Nat, fun q => [(.tmp 0, .av (.ptr 0 0)), (.tmp 8, .av (.int .u64 q.1.1)), (.tmp 10, .av (.int .u64 q.1.2.1)), (.tmp 11, .av (.int .i64 q.1.2.2.1)), (.box 0, .box [.int .u64 q.1.2.2.2.1, .int .u64 q.1.2.2.2.2.1, .int .u64 q.1.2.2.2.2.2.1, .int .u64 q.1.2.2.2.2.2.2])], fun q => loopN (fun (s : (Int × Int × Int × Int × Int × Int × Int)) => exact_quad_times_l2s s.1 s.2.1 s.2.2.1 s.2.2.2.1 s.2.2.2.2.1 s.2.2.2.2.2.1 s.2.2.2.2.2.2) q.2 q.1 = some r, fun q => q.2⟩ (And.intro (Exists.intro [] (Exists.intro [] (Exists.intro (((math_bits_Mul64 p1 p2).1, y2_8.2, (w64 (p3 + (1:Int))), (if (p3).toNat = 0 then y2_8.1 else p0.e0), (if (p3).toNat = 1 then y2_8.1 else p0.e1), (if (p3).toNat = 2 then y2_8.1 else p0.e2), (if (p3).toNat = 3 then y2_8.1 else p0.e3)), n1) (And.intro h (And.intro rfl (And.intro rfl (And.intro rfl (And.intro rfl (And.intro rfl (And.intro rfl (And.intro rfl (And.intro rfl trivial)))))))))))) ?_)
  clear h
  refine fun q h => ?_
  obtain ⟨⟨v2_8, v2_10, v2_11, v2_b0_0, v2_b0_1, v2_b0_2, v2_b0_3⟩, n1⟩ := q
  obtain ⟨m1, x1, hm1, h, hl1, hr1⟩ := loopN_step h
  replace hm1 : n1 = m1 + 1 := hm1
  subst hm1
  replace h : exact_quad_times_l2s v2_8 v2_10 v2_11 v2_b0_0 v2_b0_1 v2_b0_2 v2_b0_3 = some x1 := h
  delta exact_quad_times_l2s at h
  refine Exists.intro none ?_
  refine And.intro (fun g1 => ?_) (fun g1 => ?_)
  · skip
    replace h := cT g1 h
    refine Exists.intro none ?_
    obtain ⟨x6_5, e6_5, h⟩ := bS h
    obtain ⟨x6_6, e6_6, h⟩ := bS h
    obtain ⟨y6_9, e6_9, h⟩ := bS h
    obtain ⟨x6_14, e6_14, h⟩ := bS h
    obtain ⟨x6_15, e6_15, h⟩ := bS h
    refine And.intro (idx_lt (eI .u64) e6_5) ?_
    refine Exists.intro [.int .u64 x6_6] (And.intro (idx_elt (eI .u64) e6_6) ?_)
    refine Exists.intro (CK.plain _ _) (And.intro (Contract.wk (c_math_bits_Add64 x6_6 v2_8 v2_10 y6_9 e6_9) (And.intro rfl (And.intro rfl (And.intro rfl trivial)))) (And.intro rfl ?_))
    refine And.intro (idx_lt (eI .u64) e6_14) ?_
    refine And.intro (idx_ltN (AV.int .u64) e6_15) ?_
    refine Exists.intro none ?_
    refine Exists.intro none ?_
    exact Exists.intro [] (Exists.intro [] (Exists.intro (((0:Int), y6_9.2, (w64 (v2_11 + (1:Int))), (if (v2_11).toNat = 0 then y6_9.1 else v2_b0_0), (if (v2_11).toNat = 1 then y6_9.1 else v2_b0_1), (if (v2_11).toNat = 2 then y6_9.1 else v2_b0_2), (if (v2_11).toNat = 3 then y6_9.1 else v2_b0_3)), m1) (And.intro (hl1 ((0:Int), y6_9.2, (w64 (v2_11 + (1:Int))), (if (v2_11).toNat = 0 then y6_9.1 else v2_b0_0), (if (v2_11).toNat = 1 then y6_9.1 else v2_b0_1), (if (v2_11).toNat = 2 then y6_9.1 else v2_b0_2), (if (v2_11).toNat = 3 then y6_9.1 else v2_b0_3)) (Option.some.inj h).symm) (And.intro (Nat.lt_succ_self m1) (And.intro rfl (And.intro rfl (And.intro rfl (And.intro rfl (And.intro rfl (And.intro rfl (And.intro rfl (And.intro rfl trivial))))))))))))
  · skip
    replace h := cF g1 h
    replace h := popS h hr1
    replace h := Option.some.inj h
    first | subst h | rw [← h]
    exact (And.intro rfl (And.intro rfl (And.intro rfl (And.intro rfl trivial))))

theorem c_exact_minus (p0 : exact_quad) (p1 : exact_quad) (r : exact_quad) (h : exact_minus p0 p1 = some r) : Contract Try.prog 71 [.agg [.int .u64 p0.e0, .int .u64 p0.e1, .int .u64 p0.e2, .int .u64 p0.e3], .agg [.int .u64 p1.e0, .int .u64 p1.e1, .int .u64 p1.e2, .int .u64 p1.e3]] [] (.agg [.int .u64 r.e0, .int .u64 r.e1, .int .u64 r.e2, .int .u64 r.e3]) [] := by
  refine contract_of_vcs tab_ok orders_ok Try.func71 Try.call71 (by kernel_rfl) 0 rfl rfl _ rfl ?_
  delta exact_minus at h
  refine Exists.intro none ?_
  refine Exists.intro none ?_
  refine Exists.intro none ?_
  replace h : exact_minus_l2 p1 (0:Int) (0:Int) p0.e0 p0.e1 p0.e2 p0.e3 = some r := h
  delta exact_minus_l2 at h
  obtain ⟨n1, h⟩ := loopS h
  refine Exists.intro ⟨(Int × Int × Int × Int × Int × Int) × Nat, fun q => [(.tmp 2, .av (.ptr 0 0)), (.tmp 3, .av (.ptr 1 0)), (.tmp 4, .av (.ptr 2 0)), (.tmp 5, .av (.int .u64 q.1.1)), (.tmp 7, .av (.int .i64 q.1.2.1)), (.box 0, .box [.int .u64 q.1.2.2.1, .int .u64 q.1.2.2.2.1, .int .u64 q.1.2.2.2.2.1, .int .u64 q.1.2.2.2.2.2]), (.box 1, .box [.int .u64 p1.e0, .int .u64 p1.e1, .int .u64 p1.e2, .int .u64 p1.e3]), (.box 2, .box [.int .u64 (0:Int), .int .u64 (0:Int), .int .u64 (0:Int), .int .u64 (0:Int)])], fun q => loopN (fun (s : (Int × Int × Int × Int × Int × Int)) => exact_minus_l2s p1 s.1 s.2.1 s.2.2.1 s.2.2.2.1 s.2.2.2.2.1 s.2.2.2.2.2) q.2 q.1 = some r, fun q => q.2⟩ (And.intro (Exists.intro [] (Exists.intro [] (Exists.intro (((0:Int), (0:Int), p0.e0, p0.e1, p0.e2, p0.e3), n1) (And.intro h (And.intro rfl (And.intro rfl (And.intro rfl (And.intro rfl (And.intro rfl (And.intro rfl (And.intro rfl (And.intro rfl (And.intro rfl (And.intro rfl (And.intro rfl (And.intro rfl (And.intro rfl (And.intro rfl (And.intro rfl trivial))))))))))))))))))) ?_)
  clear h
  refine fun q h => ?_
  obtain ⟨⟨v2_5, v2_7, v2_b0x0_0, v2_b0x0_1, v2_b0x0_2, v2_b0x0_3⟩, n1⟩ := q
  obtain ⟨m1, x1, hm1, h, hl1, hr1⟩ := loopN_step h
  replace hm1 : n1 = m1 + 1 := hm1
  subst hm1
  replace h : exact_minus_l2s p1 v2_5 v2_7 v2_b0x0_0 v2_b0x0_1 v2_b0x0_2 v2_b0x0_3 = some x1 := h
  delta exact_minus_l2s at h
  refine Exists.intro none ?_
  refine And.intro (fun g1 => ?_) (fun g1 => ?_)
  · skip
    replace h := cT g1 h
    refine Exists.intro none ?_
    refine Exists.intro none ?_
    obtain ⟨x5_2, e5_2, h⟩ := bS h
    obtain ⟨x5_3, e5_3, h⟩ := bS h
    obtain ⟨x5_5, e5_5, h⟩ := bS h
    obtain ⟨x5_6, e5_6, h⟩ := bS h
    obtain ⟨y5_8, e5_8, h⟩ := bS h
    obtain ⟨x5_12, e5_12, h⟩ := bS h
    obtain ⟨x5_13, e5_13, h⟩ := bS h
    refine And.intro (idx_lt (eI .u64) e5_2) ?_
    refine Exists.intro [.int .u64 x5_3] (And.intro (idx_elt (eI .u64) e5_3) ?_)
    refine And.intro (idx_lt (eI .u64) e5_5) ?_
    refine Exists.intro [.int .u64 x5_6] (And.intro (idx_elt (eI .u64) e5_6) ?_)
    refine Exists.intro (CK.plain _ _) (And.intro (Contract.wk (c_math_bits_Sub64 x5_3 x5_6 v2_5 y5_8 e5_8) (And.intro rfl (And.intro rfl (And.intro rfl trivial)))) (And.intro rfl ?_))
    refine And.intro (idx_lt (eI .u64) e5_12) ?_
    refine And.intro (idx_ltN (AV.int .u64) e5_13) ?_
    refine Exists.intro none ?_
    exact Exists.intro [] (Exists.intro [] (Exists.intro ((y5_8.2, (w64 (v2_7 + (1:Int))), (if (v2_7).toNat = 0 then y5_8.1 else v2_b0x0_0), (if (v2_7).toNat = 1 then y5_8.1 else v2_b0x0_1), (if (v2_7).toNat = 2 then y5_8.1 else v2_b0x0_2), (if (v2_7).toNat = 3 then y5_8.1 else v2_b0x0_3)), m1) (And.intro (hl1 (y5_8.2, (w64 (v2_7 + (1:Int))), (if (v2_7).toNat = 0 then y5_8.1 else v2_b0x0_0), (if (v2_7).toNat = 1 then y5_8.1 else v2_b0x0_1), (if (v2_7).toNat = 2 then y5_8.1 else v2_b0x0_2), (if (v2_7).toNat = 3 then y5_8.1 else v2_b0x0_3)) (Option.some.inj h).symm) (And.intro (Nat.lt_succ_self m1) (And.intro rfl (And.intro rfl (And.intro rfl (And.intro rfl (And.intro rfl (And.intro rfl (And.intro rfl (And.intro rfl (And.intro rfl (And.intro rfl (And.intro rfl (And.intro rfl (And.intro rfl (And.intro rfl (And.intro rfl trivial)))))))))))))))))))
  · skip
    replace h := cF g1 h
    replace h := popS h hr1
    refine Exists.intro none ?_
    replace h := Option.some.inj h
    first | subst h | rw [← h]
    exact (And.intro rfl (And.intro rfl (And.intro rfl (And.intro rfl trivial))))

theorem c_math_bits_LeadingZeros64 (p0 : Int) (r : Int) (h : math_bits_LeadingZeros64 p0 = some r) : Contract Try.prog 124 [.int .u64 p0] [] (.int .i64 r) [] := by
  refine contract_of_vcs tab_ok orders_ok Try.func124 Try.call124 (by kernel_rfl) 0 rfl rfl _ rfl ?_
  delta math_bits_LeadingZeros64 at h
  refine Exists.intro none ?_
  refine Exists.intro none ?_
  obtain ⟨y1_1, e1_1, h⟩ := bS h
  refine Exists.intro (CK.plain _ _) (And.intro (Contract.wk (c_math_bits_Len64 p0 y1_1 e1_1) (And.intro rfl trivial)) (And.intro rfl ?_))
  replace h := Option.some.inj h
  first | subst h | rw [← h]
  exact (And.intro rfl trivial)

theorem c_math_bits_Div64 (p0 : Int) (p1 : Int) (p2 : Int) (r : (Int × Int)) (h : math_bits_Div64 p0 p1 p2 = some r) : Contract Try.prog 101 [.int .u64 p0, .int .u64 p1, .int .u64 p2] [] (.tup [.int .u64 r.1, .int .u64 r.2]) [] := by
  refine contract_of_vcs tab_ok orders_ok Try.func101 Try.call101 (by kernel_rfl) 0 rfl rfl _ rfl ?_
  delta math_bits_Div64 at h
  refine Exists.intro none ?_
  refine Exists.intro none ?_
  refine Exists.intro none ?_
  refine And.intro (fun g1 => ?_) (fun g1 => ?_)
  · skip
    replace h := cT g1 h
    cases h
  · skip
    replace h := cF g1 h
    refine Exists.intro none ?_
    refine Exists.intro none ?_
    refine And.intro (fun g2 => ?_) (fun g2 => ?_)
    · skip
      replace h := cT g2 h
      cases h
    · skip
      replace h := cF g2 h
      refine Exists.intro none ?_
      refine And.intro (fun g3 => ?_) (fun g3 => ?_)
      · skip
        replace h := cT g3 h
        refine Exists.intro none ?_
        obtain ⟨k6_2, h⟩ := ckS h
        obtain ⟨k6_5, h⟩ := ckS h
        refine And.intro (of_decide_eq_true k6_2) ?_
        refine And.intro (of_decide_eq_true k6_5) ?_
        replace h := Option.some.inj h
        first | subst h | rw [← h]
        exact (And.intro rfl (And.intro rfl trivial))
      · skip
        replace h := cF g3 h
        refine Exists.intro none ?_
        obtain ⟨y7_1, e7_1, h⟩ := bS h
        refine Exists.intro (CK.plain _ _) (And.intro (Contract.wk (c_math_bits_LeadingZeros64 p2 y7_1 e7_1) (And.intro rfl trivial)) (And.intro rfl ?_))
        refine Exists.intro none ?_
        obtain ⟨k8_2, h⟩ := ckS h
        refine And.intro (of_decide_eq_true k8_2) ?_
        refine Exists.intro none ?_
        refine And.intro (by decide) ?_
        refine Exists.intro none ?_
        refine Exists.intro none ?_
        obtain ⟨k11_2, h⟩ := ckS h
        obtain ⟨k11_6, h⟩ := ckS h
        refine And.intro (of_decide_eq_true k11_2) ?_
        refine And.intro (of_decide_eq_true k11_6) ?_
        refine Exists.intro none ?_
        obtain ⟨k12_2, h⟩ := ckS h
        refine And.intro (of_decide_eq_true k12_2) ?_
        refine Exists.intro none ?_
        refine And.intro (by decide) ?_
        refine Exists.intro none ?_
        refine Exists.intro none ?_
        obtain ⟨k15_2, h⟩ := ckS h
        refine And.intro (of_decide_eq_true k15_2) ?_
        refine Exists.intro none ?_
        refine Exists.intro (some (⟨Int, fun j4_15 => [(.tmp 2, .av (.int .u64 (ishl .u64 p2 (wu64 y7_1)))), (.tmp 8, .av (.int .u64 (wu64 y7_1))), (.tmp 9, .av (.int .u64 (ishr .u64 (ishl .u64 p2 (wu64 y7_1)) (32:Int)))), (.tmp 10, .av (.int .u64 (iand .u64 (ishl .u64 p2 (wu64 y7_1)) (4294967295:Int)))), (.tmp 11, .av (.int .u64 (ior .u64 (ishl .u64 p0 (wu64 y7_1)) (ishr .u64 p1 (wu64 ((64:Int) - (wu64 y7_1))))))), (.tmp 13, .av (.int .u64 (ishr .u64 (ishl .u64 p1 (wu64 y7_1)) (32:Int)))), (.tmp 14, .av (.int .u64 (iand .u64 (ishl .u64 p1 (wu64 y7_1)) (4294967295:Int)))), (.tmp 15, .av (.int .u64 j4_15))], fun j4_15 => math_bits_Div64_j4 p0 p1 p2 y7_1 j4_15 = some r, fun _ => 0⟩, 1000000)) (And.intro ?_ ?_)
        · skip
          replace h : math_bits_Div64_l5 p0 p1 p2 y7_1 (wu64 (Int.tdiv (ior .u64 (ishl .u64 p0 (wu64 y7_1)) (ishr .u64 p1 (wu64 ((64:Int) - (wu64 y7_1))))) (ishr .u64 (ishl .u64 p2 (wu64 y7_1)) (32:Int)))) (wu64 ((ior .u64 (ishl .u64 p0 (wu64 y7_1)) (ishr .u64 p1 (wu64 ((64:Int) - (wu64 y7_1))))) - (wu64 ((wu64 (Int.tdiv (ior .u64 (ishl .u64 p0 (wu64 y7_1)) (ishr .u64 p1 (wu64 ((64:Int) - (wu64 y7_1))))) (ishr .u64 (ishl .u64 p2 (wu64 y7_1)) (32:Int)))) * (ishr .u64 (ishl .u64 p2 (wu64 y7_1)) (32:Int)))))) = some r := h
          delta math_bits_Div64_l5 at h
          obtain ⟨n1, h⟩ := loopS h
          refine Exists.intro ⟨(Int × Int) × Nat, fun q => [(.tmp 2, .av (.int .u64 (ishl .u64 p2 (wu64 y7_1)))), (.tmp 8, .av (.int .u64 (wu64 y7_1))), (.tmp 9, .av (.int .u64 (ishr .u64 (ishl .u64 p2 (wu64 y7_1)) (32:Int)))), (.tmp 10, .av (.int .u64 (iand .u64 (ishl .u64 p2 (wu64 y7_1)) (4294967295:Int)))), (.tmp 11, .av (.int .u64 (ior .u64 (ishl .u64 p0 (wu64 y7_1)) (ishr .u64 p1 (wu64 ((64:Int) - (wu64 y7_1))))))), (.tmp 13, .av (.int .u64 (ishr .u64 (ishl .u64 p1 (wu64 y7_1)) (32:Int)))), (.tmp 14, .av (.int .u64 (iand .u64 (ishl .u64 p1 (wu64 y7_1)) (4294967295:Int)))), (.tmp 15, .av (.int .u64 q.1.1)), (.tmp 16, .av (.int .u64 q.1.2))], fun q => loopN (fun (s : (Int × Int)) => math_bits_Div64_l5s p0 p1 p2 y7_1 s.1 s.2) q.2 q.1 = some r, fun q => q.2⟩ (And.intro (Exists.intro [] (Exists.intro [] (Exists.intro (((wu64 (Int.tdiv (ior .u64 (ishl .u64 p0 (wu64 y7_1)) (ishr .u64 p1 (wu64 ((64:Int) - (wu64 y7_1))))) (ishr .u64 (ishl .u64 p2 (wu64 y7_1)) (32:Int)))), (wu64 ((ior .u64 (ishl .u64 p0 (wu64 y7_1)) (ishr .u64 p1 (wu64 ((64:Int) - (wu64 y7_1))))) - (wu64 ((wu64 (Int.tdiv (ior .u64 (ishl .u64 p0 (wu64 y7_1)) (ishr .u64 p1 (wu64 ((64:Int) - (wu64 y7_1))))) (ishr .u64 (ishl .u64 p2 (wu64 y7_1)) (32:Int)))) * (ishr .u64 (ishl .u64 p2 (wu64 y7_1)) (32:Int))))))), n1) (And.intro h (And.intro rfl (And.intro rfl (And.intro rfl (And.intro rfl (And.intro rfl (And.intro rfl (And.intro rfl (And.intro rfl (And.intro rfl (And.intro rfl trivial)))))))))))))) ?_)
          clear h
          refine fun q h => ?_
          obtain ⟨⟨v5_15, v5_16⟩, n1⟩ := q
          obtain ⟨m1, x1, hm1, h, hl1, hr1⟩ := loopN_step h
          replace hm1 : n1 = m1 + 1 := hm1
          subst hm1
          replace h : math_bits_Div64_l5s p0 p1 p2 y7_1 v5_15 v5_16 = some x1 := h
          delta math_bits_Div64_l5s at h
          refine Exists.intro none ?_
          refine Exists.intro (some (⟨Unit, fun _ => [(.tmp 2, .av (.int .u64 (ishl .u64 p2 (wu64 y7_1)))), (.tmp 8, .av (.int .u64 (wu64 y7_1))), (.tmp 9, .av (.int .u64 (ishr .u64 (ishl .u64 p2 (wu64 y7_1)) (32:Int)))), (.tmp 10, .av (.int .u64 (iand .u64 (ishl .u64 p2 (wu64 y7_1)) (4294967295:Int)))), (.tmp 11, .av (.int .u64 (ior .u64 (ishl .u64 p0 (wu64 y7_1)) (ishr .u64 p1 (wu64 ((64:Int) - (wu64 y7_1))))))), (.tmp 13, .av (.int .u64 (ishr .u64 (ishl .u64 p1 (wu64 y7_1)) (32:Int)))), (.tmp 14, .av (.int .u64 (iand .u64 (ishl .u64 p1 (wu64 y7_1)) (4294967295:Int)))), (.tmp 15, .av (.int .u64 v5_15)), (.tmp 16, .av (.int .u64 v5_16)), (.tmp 78, .av (.sb ((decide (v5_15 ≥ (4294967296:Int))) || (decide ((wu64 (v5_15 * (iand .u64 (ishl .u64 p2 (wu64 y7_1)) (4294967295:Int)))) > (wu64 ((wu64 ((4294967296:Int) * v5_16)) + (ishr .u64 (ishl .u64 p1 (wu64 y7_1)) (32:Int)))))))))], fun _ => True, fun _ => 0⟩, 1000000)) (And.intro ?_ (fun _ _ => ?_))
          · skip
            refine And.intro (fun g4 => ?_) (fun g4 => ?_)
            · skip
              exact Exists.intro [] (Exists.intro [] (Exists.intro () (And.intro trivial (And.intro rfl (And.intro rfl (And.intro rfl (And.intro rfl (And.intro rfl (And.intro rfl (And.intro rfl (And.intro rfl (And.intro rfl (And.intro rfl (And.intro (Eq.symm (oR g4 rfl)) trivial))))))))))))))
            · skip
              exact Exists.intro [] (Exists.intro [] (Exists.intro () (And.intro trivial (And.intro rfl (And.intro rfl (And.intro rfl (And.intro rfl (And.intro rfl (And.intro rfl (And.intro rfl (And.intro rfl (And.intro rfl (And.intro rfl (And.intro (Eq.symm (oL g4)) trivial))))))))))))))
          · skip
            refine And.intro (fun g5 => ?_) (fun g5 => ?_)
            · skip
              replace h := cT g5 h
              refine Exists.intro none ?_
              refine Exists.intro none ?_
              refine Exists.intro none ?_
              refine And.intro (fun g6 => ?_) (fun g6 => ?_)
              · skip
                replace h := cT g6 h
                replace h := popS h hr1
                exact Exists.intro [] (Exists.intro [] (Exists.intro (wu64 (v5_15 - (1:Int))) (And.intro h (And.intro rfl (And.intro rfl (And.intro rfl (And.intro rfl (And.intro rfl (And.intro rfl (And.intro rfl (And.intro rfl (And.intro rfl trivial))))))))))))
              · skip
                replace h := cF g6 h
                exact Exists.intro [] (Exists.intro [] (Exists.intro (((wu64 (v5_15 - (1:Int))), (wu64 (v5_16 + (ishr .u64 (ishl .u64 p2 (wu64 y7_1)) (32:Int))))), m1) (And.intro (hl1 ((wu64 (v5_15 - (1:Int))), (wu64 (v5_16 + (ishr .u64 (ishl .u64 p2 (wu64 y7_1)) (32:Int))))) (Option.some.inj h).symm) (And.intro (Nat.lt_succ_self m1) (And.intro rfl (And.intro rfl (And.intro rfl (And.intro rfl (And.intro rfl (And.intro rfl (And.intro rfl (And.intro rfl (And.intro rfl (And.intro rfl trivial))))))))))))))
            · skip
              replace h := cF g5 h
              replace h := popS h hr1
              exact Exists.intro [] (Exists.intro [] (Exists.intro v5_15 (And.intro h (And.intro rfl (And.intro rfl (And.intro rfl (And.intro rfl (And.intro rfl (And.intro rfl (And.intro rfl (And.intro rfl (And.intro rfl trivial))))))))))))
        · skip
          clear h
          refine fun j4_15 h => ?_
          replace h : math_bits_Div64_j4 p0 p1 p2 y7_1 j4_15 = some r := h
          delta math_bits_Div64_j4 at h
          refine Exists.intro none ?_
          refine Exists.intro none ?_
          obtain ⟨k22_2, h⟩ := ckS h
          refine And.intro (of_decide_eq_true k22_2) ?_
          refine Exists.intro none ?_
          refine Exists.intro (some (⟨Int, fun j9_18 => [(.tmp 2, .av (.int .u64 (ishl .u64 p2 (wu64 y7_1)))), (.tmp 8, .av (.int .u64 (wu64 y7_1))), (.tmp 14, .av (.int .u64 (iand .u64 (ishl .u64 p1 (wu64 y7_1)) (4294967295:Int)))), (.tmp 15, .av (.int .u64 j4_15)), (.tmp 17, .av (.int .u64 (wu64 ((wu64 ((wu64 ((ior .u64 (ishl .u64 p0 (wu64 y7_1)) (ishr .u64 p1 (wu64 ((64:Int) - (wu64 y7_1))))) * (4294967296:Int))) + (ishr .u64 (ishl .u64 p1 (wu64 y7_1)) (32:Int)))) - (wu64 (j4_15 * (ishl .u64 p2 (wu64 y7_1)))))))), (.tmp 18, .av (.int .u64 j9_18))], fun j9_18 => math_bits_Div64_j9 p0 p1 p2 y7_1 j4_15 j9_18 = some r, fun _ => 0⟩, 2000000)) (And.intro ?_ ?_)
          · skip
            replace h : math_bits_Div64_l10 p0 p1 p2 y7_1 j4_15 (wu64 ((wu64 ((wu64 ((wu64 ((ior .u64 (ishl .u64 p0 (wu64 y7_1)) (ishr .u64 p1 (wu64 ((64:Int) - (wu64 y7_1))))) * (4294967296:Int))) + (ishr .u64 (ishl .u64 p1 (wu64 y7_1)) (32:Int)))) - (wu64 (j4_15 * (ishl .u64 p2 (wu64 y7_1)))))) - (wu64 ((wu64 (Int.tdiv (wu64 ((wu64 ((wu64 ((ior .u64 (ishl .u64 p0 (wu64 y7_1)) (ishr .u64 p1 (wu64 ((64:Int) - (wu64 y7_1))))) * (4294967296:Int))) + (ishr .u64 (ishl .u64 p1 (wu64 y7_1)) (32:Int)))) - (wu64 (j4_15 * (ishl .u64 p2 (wu64 y7_1)))))) (ishr .u64 (ishl .u64 p2 (wu64 y7_1)) (32:Int)))) * (ishr .u64 (ishl .u64 p2 (wu64 y7_1)) (32:Int)))))) (wu64 (Int.tdiv (wu64 ((wu64 ((wu64 ((ior .u64 (ishl .u64 p0 (wu64 y7_1)) (ishr .u64 p1 (wu64 ((64:Int) - (wu64 y7_1))))) * (4294967296:Int))) + (ishr .u64 (ishl .u64 p1 (wu64 y7_1)) (32:Int)))) - (wu64 (j4_15 * (ishl .u64 p2 (wu64 y7_1)))))) (ishr .u64 (ishl .u64 p2 (wu64 y7_1)) (32:Int)))) = some r := h
            delta math_bits_Div64_l10 at h
            obtain ⟨n1, h⟩ := loopS h
            refine Exists.intro ⟨(Int × Int) × Nat, fun q => [(.tmp 2, .av (.int .u64 (ishl .u64 p2 (wu64 y7_1)))), (.tmp 8, .av (.int .u64 (wu64 y7_1))), (.tmp 9, .av (.int .u64 (ishr .u64 (ishl .u64 p2 (wu64 y7_1)) (32:Int)))), (.tmp 10, .av (.int .u64 (iand .u64 (ishl .u64 p2 (wu64 y7_1)) (4294967295:Int)))), (.tmp 14, .av (.int .u64 (iand .u64 (ishl .u64 p1 (wu64 y7_1)) (4294967295:Int)))), (.tmp 15, .av (.int .u64 j4_15)), (.tmp 16, .av (.int .u64 q.1.1)), (.tmp 17, .av (.int .u64 (wu64 ((wu64 ((wu64 ((ior .u64 (ishl .u64 p0 (wu64 y7_1)) (ishr .u64 p1 (wu64 ((64:Int) - (wu64 y7_1))))) * (4294967296:Int))) + (ishr .u64 (ishl .u64 p1 (wu64 y7_1)) (32:Int)))) - (wu64 (j4_15 * (ishl .u64 p2 (wu64 y7_1)))))))), (.tmp 18, .av (.int .u64 q.1.2))], fun q => loopN (fun (s : (Int × Int)) => math_bits_Div64_l10s p0 p1 p2 y7_1 j4_15 s.1 s.2) q.2 q.1 = some r, fun q => q.2⟩ (And.intro (Exists.intro [] (Exists.intro [] (Exists.intro (((wu64 ((wu64 ((wu64 ((wu64 ((ior .u64 (ishl .u64 p0 (wu64 y7_1)) (ishr .u64 p1 (wu64 ((64:Int) - (wu64 y7_1))))) * (4294967296:Int))) + (ishr .u64 (ishl .u64 p1 (wu64 y7_1)) (32:Int)))) - (wu64 (j4_15 * (ishl .u64 p2 (wu64 y7_1)))))) - (wu64 ((wu64 (Int.tdiv (wu64 ((wu64 ((wu64 ((ior .u64 (ishl .u64 p0 (wu64 y7_1)) (ishr .u64 p1 (wu64 ((64:Int) - (wu64 y7_1))))) * (4294967296:Int))) + (ishr .u64 (ishl .u64 p1 (wu64 y7_1)) (32:Int)))) - (wu64 (j4_15 * (ishl .u64 p2 (wu64 y7_1)))))) (ishr .u64 (ishl .u64 p2 (wu64 y7_1)) (32:Int)))) * (ishr .u64 (ishl .u64 p2 (wu64 y7_1)) (32:Int)))))), (wu64 (Int.tdiv (wu64 ((wu64 ((wu64 ((ior .u64 (ishl .u64 p0 (wu64 y7_1)) (ishr .u64 p1 (wu64 ((64:Int) - (wu64 y7_1))))) * (4294967296:Int))) + (ishr .u64 (ishl .u64 p1 (wu64 y7_1)) (32:Int)))) - (wu64 (j4_15 * (ishl .u64 p2 (wu64 y7_1)))))) (ishr .u64 (ishl .u64 p2 (wu64 y7_1)) (32:Int))))), n1) (And.intro h (And.intro rfl (And.intro rfl (And.intro rfl (And.intro rfl (And.intro rfl (And.intro rfl (And.intro rfl (And.intro rfl (And.intro rfl (And.intro rfl trivial)))))))))))))) ?_)
            clear h
            refine fun q h => ?_
            obtain ⟨⟨v10_16, v10_18⟩, n1⟩ := q
            obtain ⟨m1, x1, hm1, h, hl1, hr1⟩ := loopN_step h
            replace hm1 : n1 = m1 + 1 := hm1
            subst hm1
            replace h : math_bits_Div64_l10s p0 p1 p2 y7_1 j4_15 v10_16 v10_18 = some x1 := h
            delta math_bits_Div64_l10s at h
            refine Exists.intro none ?_
            refine Exists.intro (some (⟨Unit, fun _ => [(.tmp 2, .av (.int .u64 (ishl .u64 p2 (wu64 y7_1)))), (.tmp 8, .av (.int .u64 (wu64 y7_1))), (.tmp 9, .av (.int .u64 (ishr .u64 (ishl .u64 p2 (wu64 y7_1)) (32:Int)))), (.tmp 10, .av (.int .u64 (iand .u64 (ishl .u64 p2 (wu64 y7_1)) (4294967295:Int)))), (.tmp 14, .av (.int .u64 (iand .u64 (ishl .u64 p1 (wu64 y7_1)) (4294967295:Int)))), (.tmp 15, .av (.int .u64 j4_15)), (.tmp 16, .av (.int .u64 v10_16)), (.tmp 17, .av (.int .u64 (wu64 ((wu64 ((wu64 ((ior .u64 (ishl .u64 p0 (wu64 y7_1)) (ishr .u64 p1 (wu64 ((64:Int) - (wu64 y7_1))))) * (4294967296:Int))) + (ishr .u64 (ishl .u64 p1 (wu64 y7_1)) (32:Int)))) - (wu64 (j4_15 * (ishl .u64 p2 (wu64 y7_1)))))))), (.tmp 18, .av (.int .u64 v10_18)), (.tmp 113, .av (.sb ((decide (v10_18 ≥ (4294967296:Int))) || (decide ((wu64 (v10_18 * (iand .u64 (ishl .u64 p2 (wu64 y7_1)) (4294967295:Int)))) > (wu64 ((wu64 ((4294967296:Int) * v10_16)) + (iand .u64 (ishl .u64 p1 (wu64 y7_1)) (4294967295:Int)))))))))], fun _ => True, fun _ => 0⟩, 2000000)) (And.intro ?_ (fun _ _ => ?_))
            · skip
              refine And.intro (fun g7 => ?_) (fun g7 => ?_)
              · skip
                exact Exists.intro [] (Exists.intro [] (Exists.intro () (And.intro trivial (And.intro rfl (And.intro rfl (And.intro rfl (And.intro rfl (And.intro rfl (And.intro rfl (And.intro rfl (And.intro rfl (And.intro rfl (And.intro rfl (And.intro (Eq.symm (oR g7 rfl)) trivial))))))))))))))
              · skip
                exact Exists.intro [] (Exists.intro [] (Exists.intro () (And.intro trivial (And.intro rfl (And.intro rfl (And.intro rfl (And.intro rfl (And.intro rfl (And.intro rfl (And.intro rfl (And.intro rfl (And.intro rfl (And.intro rfl (And.intro (Eq.symm (oL g7)) trivial))))))))))))))
            · skip
              refine And.intro (fun g8 => ?_) (fun g8 => ?_)
              · skip
                replace h := cT g8 h
                refine Exists.intro none ?_
                refine Exists.intro none ?_
                refine Exists.intro none ?_
                refine And.intro (fun g9 => ?_) (fun g9 => ?_)
                · skip
                  replace h := cT g9 h
                  replace h := popS h hr1
                  exact Exists.intro [] (Exists.intro [] (Exists.intro (wu64 (v10_18 - (1:Int))) (And.intro h (And.intro rfl (And.intro rfl (And.intro rfl (And.intro rfl (And.intro rfl (And.intro rfl (And.intro rfl trivial))))))))))
                · skip
                  replace h := cF g9 h
                  exact Exists.intro [] (Exists.intro [] (Exists.intro (((wu64 (v10_16 + (ishr .u64 (ishl .u64 p2 (wu64 y7_1)) (32:Int)))), (wu64 (v10_18 - (1:Int)))), m1) (And.intro (hl1 ((wu64 (v10_16 + (ishr .u64 (ishl .u64 p2 (wu64 y7_1)) (32:Int)))), (wu64 (v10_18 - (1:Int)))) (Option.some.inj h).symm) (And.intro (Nat.lt_succ_self m1) (And.intro rfl (And.intro rfl (And.intro rfl (And.intro rfl (And.intro rfl (And.intro rfl (And.intro rfl (And.intro rfl (And.intro rfl (And.intro rfl trivial))))))))))))))
              · skip
                replace h := cF g8 h
                replace h := popS h hr1
                exact Exists.intro [] (Exists.intro [] (Exists.intro v10_18 (And.intro h (And.intro rfl (And.intro rfl (And.intro rfl (And.intro rfl (And.intro rfl (And.intro rfl (And.intro rfl trivial))))))))))
          · skip
            clear h
            refine fun j9_18 h => ?_
            replace h : math_bits_Div64_j9 p0 p1 p2 y7_1 j4_15 j9_18 = some r := h
            delta math_bits_Div64_j9 at h
            refine Exists.intro none ?_
            obtain ⟨k28_13, h⟩ := ckS h
            refine And.intro (of_decide_eq_true k28_13) ?_
            replace h := Option.some.inj h
            first | subst h | rw [← h]
            exact (And.intro rfl (And.intro rfl trivial))

theorem c_exact_by (p0 : exact_quad) (p1 : Int) (r : (exact_quad × Int)) (h : exact_by p0 p1 = some r) : Contract Try.prog 72 [.agg [.int .u64 p0.e0, .int .u64 p0.e1, .int .u64 p0.e2, .int .u64 p0.e3], .int .u64 p1] [] (.tup [.agg [.int .u64 r.1.e0, .int .u64 r.1.e1, .int .u64 r.1.e2, .int .u64 r.1.e3], .int .u64 r.2]) [] := by
  refine contract_of_vcs tab_ok orders_ok Try.func72 Try.call72 (by kernel_rfl) 0 rfl rfl _ rfl ?_
  delta exact_by at h
  refine Exists.intro none ?_
  refine Exists.intro none ?_
  refine Exists.intro none ?_
  replace h : exact_by_l2 p1 (0:Int) (3:Int) p0.e0 p0.e1 p0.e2 p0.e3 = some r := h
  delta exact_by_l2 at h
  obtain ⟨n1, h⟩ := loopS h
  refine Exists.intro ⟨(Int × Int × Int × Int × Int × Int) × Nat, fun q => [(.tmp 1, .av (.int .u64 p1)), (.tmp 2, .av (.ptr 0 0)), (.tmp 4, .av (.ptr 1 0)), (.tmp 6, .av (.int .u64 q.1.1)), (.tmp 7, .av (.int .i64 q.1.2.1)), (.box 0, .box [.int .u64 q.1.2.2.1, .int .u64 q.1.2.2.2.1, .int .u64 q.1.2.2.2.2.1, .int .u64 q.1.2.2.2.2.2]), (.box 1, .box [.int .u64 (0:Int), .int .u64 (0:Int), .int .u64 (0:Int), .int .u64 (0:Int)])], fun q => loopN (fun (s : (Int × Int × Int × Int × Int × Int)) => exact_by_l2s p1 s.1 s.2.1 s.2.2.1 s.2.2.2.1 s.2.2.2.2.1 s.2.2.2.2.2) q.2 q.1 = some r, fun q => q.2⟩ (And.intro (Exists.intro [] (Exists.intro [] (Exists.intro (((0:Int), (3:Int), p0.e0, p0.e1, p0.e2, p0.e3), n1) (And.intro h (And.intro rfl (And.intro rfl (And.intro rfl (And.intro rfl (And.intro rfl (And.intro rfl (And.intro rfl (And.intro rfl (And.intro rfl (And.intro rfl (And.intro rfl (And.intro rfl trivial)))))))))))))))) ?_)
  clear h
  refine fun q h => ?_
  obtain ⟨⟨v2_6, v2_7, v2_b0x0_0, v2_b0x0_1, v2_b0x0_2, v2_b0x0_3⟩, n1⟩ := q
  obtain ⟨m1, x1, hm1, h, hl1, hr1⟩ := loopN_step h
  replace hm1 : n1 = m1 + 1 := hm1
  subst hm1
  replace h : exact_by_l2s p1 v2_6 v2_7 v2_b0x0_0 v2_b0x0_1 v2_b0x0_2 v2_b0x0_3 = some x1 := h
  delta exact_by_l2s at h
  refine Exists.intro none ?_
  refine And.intro (fun g1 => ?_) (fun g1 => ?_)
  · skip
    replace h := cT g1 h
    refine Exists.intro none ?_
    obtain ⟨x5_3, e5_3, h⟩ := bS h
    obtain ⟨x5_4, e5_4, h⟩ := bS h
    obtain ⟨y5_6, e5_6, h⟩ := bS h
    obtain ⟨x5_10, e5_10, h⟩ := bS h
    obtain ⟨x5_11, e5_11, h⟩ := bS h
    refine And.intro (idx_lt (eI .u64) e5_3) ?_
    refine Exists.intro [.int .u64 x5_4] (And.intro (idx_elt (eI .u64) e5_4) ?_)
    refine Exists.intro (CK.plain _ _) (And.intro (Contract.wk (c_math_bits_Div64 v2_6 x5_4 p1 y5_6 e5_6) (And.intro rfl (And.intro rfl (And.intro rfl trivial)))) (And.intro rfl ?_))
    refine And.intro (idx_lt (eI .u64) e5_10) ?_
    refine And.intro (idx_ltN (AV.int .u64) e5_11) ?_
    refine Exists.intro none ?_
    exact Exists.intro [] (Exists.intro [] (Exists.intro ((y5_6.2, (w64 (v2_7 - (1:Int))), (if (v2_7).toNat = 0 then y5_6.1 else v2_b0x0_0), (if (v2_7).toNat = 1 then y5_6.1 else v2_b0x0_1), (if (v2_7).toNat = 2 then y5_6.1 else v2_b0x0_2), (if (v2_7).toNat = 3 then y5_6.1 else v2_b0x0_3)), m1) (And.intro (hl1 (y5_6.2, (w64 (v2_7 - (1:Int))), (if (v2_7).toNat = 0 then y5_6.1 else v2_b0x0_0), (if (v2_7).toNat = 1 then y5_6.1 else v2_b0x0_1), (if (v2_7).toNat = 2 then y5_6.1 else v2_b0x0_2), (if (v2_7).toNat = 3 then y5_6.1 else v2_b0x0_3)) (Option.some.inj h).symm) (And.intro (Nat.lt_succ_self m1) (And.intro rfl (And.intro rfl (And.intro rfl (And.intro rfl (And.intro rfl (And.intro rfl (And.intro rfl (And.intro rfl (And.intro rfl (And.intro rfl (And.intro rfl (And.intro rfl trivial))))))))))))))))
  · skip
    replace h := cF g1 h
    replace h := popS h hr1
    refine Exists.intro none ?_
    replace h := Option.some.inj h
    first | subst h | rw [← h]
    exact (And.intro rfl (And.intro rfl (And.intro rfl (And.intro rfl (And.intro rfl trivial)))))

theorem c_num_Gcd (p0 : Int) (p1 : Int) (r : Int) (h : num_Gcd p0 p1 = some r) : Contract Try.prog 73 [.int .i64 p0, .int .i64 p1] [] (.int .i64 r) [] := by
  refine contract_of_vcs tab_ok orders_ok Try.func73 Try.call73 (by kernel_rfl) 0 rfl rfl _ rfl ?_
  delta num_Gcd at h
  refine Exists.intro none ?_
  refine Exists.intro none ?_
  refine Exists.intro none ?_
  refine And.intro (fun g1 => ?_) (fun g1 => ?_)
  · skip
    refine And.intro (fun g2 => ?_) (fun g2 => ?_)
    · skip
      replace h := cT (oR g1 g2) h
      refine Exists.intro none ?_
      replace h := Option.some.inj h
      first | subst h | rw [← h]
      exact (And.intro rfl trivial)
    · skip
      replace h := cF (oR g1 g2) h
      replace h : num_Gcd_l3 p0 p1 = some r := h
      delta num_Gcd_l3 at h
      obtain ⟨n1, h⟩ := loopS h
      refine Exists.intro ⟨(Int × Int) × Nat, fun q => [(.tmp 0, .av (.int .i64 q.1.1)), (.tmp 1, .av (.int .i64 q.1.2))], fun q => loopN (fun (s : (Int × Int)) => num_Gcd_l3s s.1 s.2) q.2 q.1 = some r, fun q => q.2⟩ (And.intro (Exists.intro [] (Exists.intro [] (Exists.intro ((p0, p1), n1) (And.intro h (And.intro rfl (And.intro rfl (And.intro rfl trivial))))))) ?_)
      clear h
      refine fun q h => ?_
      obtain ⟨⟨v3_0, v3_1⟩, n1⟩ := q
      obtain ⟨m1, x1, hm1, h, hl1, hr1⟩ := loopN_step h
      replace hm1 : n1 = m1 + 1 := hm1
      subst hm1
      replace h : num_Gcd_l3s v3_0 v3_1 = some x1 := h
      delta num_Gcd_l3s at h
      refine Exists.intro none ?_
      refine And.intro (fun g3 => ?_) (fun g3 => ?_)
      · skip
        replace h := cT g3 h
        refine Exists.intro none ?_
        obtain ⟨k4_3, h⟩ := ckS h
        refine And.intro (of_decide_eq_true k4_3) ?_
        exact Exists.intro [] (Exists.intro [] (Exists.intro ((v3_1, (Int.tmod v3_0 v3_1)), m1) (And.intro (hl1 (v3_1, (Int.tmod v3_0 v3_1)) (Option.some.inj h).symm) (And.intro (Nat.lt_succ_self m1) (And.intro rfl (And.intro rfl (And.intro rfl trivial)))))))
      · skip
        replace h := cF g3 h
        replace h := popS h hr1
        refine Exists.intro none ?_
        replace h := Option.some.inj h
        first | subst h | rw [← h]
        exact (And.intro rfl trivial)
  · skip
    replace h := cT (oL g1) h
    refine Exists.intro none ?_
    replace h := Option.some.inj h
    first | subst h | rw [← h]
    exact (And.intro rfl trivial)

theorem c_exact_Spread (p0 : (List api_Item)) (r : (api_Ratio × Bool)) (h : exact_Spread p0 = some r) : Contract Try.prog 45 [.lst 2 false (List.map enc_api_Item p0)] [] (.tup [.agg [.int .i64 r.1.Num, .int .i64 r.1.Den], .sb r.2]) [] := by
  refine contract_of_vcs tab_ok orders_ok Try.func45 Try.call45 (by kernel_rfl) 0 rfl rfl _ rfl ?_
  delta exact_Spread at h
  refine Exists.intro none ?_
  refine Exists.intro none ?_
  refine Exists.intro [.int .i64 (p0.length : Int)] (And.intro (lenS enc_api_Item p0) ?_)
  refine Exists.intro none ?_
  refine And.intro (fun g1 => ?_) (fun g1 => ?_)
  · skip
    replace h := cT g1 h
    refine Exists.intro none ?_
    replace h := Option.some.inj h
    first | subst h | rw [← h]
    exact (And.intro rfl (And.intro rfl (And.intro rfl trivial)))
  · skip
    replace h := cF g1 h
    refine Exists.intro none ?_
    refine Exists.intro none ?_
    refine Exists.intro [.int .i64 (p0.length : Int)] (And.intro (lenS enc_api_Item p0) ?_)
    replace h : exact_Spread_l3 p0 (0:Int) (0:Int) (0:Int) (0:Int) (0:Int) = some r := h
    delta exact_Spread_l3 at h
    obtain ⟨n1, h⟩ := loopS h
    refine Exists.intro ⟨(Int × Int × Int × Int × Int) × Nat, fun q => [(.tmp 0, .av (.lst 2 false (List.map enc_api_Item p0))), (.tmp 2, .av (.ptr 0 0)), (.tmp 4, .av (.int .u64 (wu64 (p0.length : Int)))), (.tmp 5, .av (.ptr 768 0)), (.tmp 6, .av (.ptr 769 0)), (.tmp 7, .av (.ptr 770 0)), (.tmp 23, .av (.lst 2 false (List.map enc_api_Item p0))), (.tmp 24, .av (.int .i64 (p0.length : Int))), (.tmp 25, .av (.int .i64 q.1.1)), (.box 0, .box [.int .i64 (0:Int), .int .i64 (0:Int)]), (.box 768, .box [.int .u64 q.1.2.1, .int .u64 q.1.2.2.1, .int .u64 q.1.2.2.2.1, .int .u64 q.1.2.2.2.2]), (.box 769, .box [.int .u64 (0:Int), .int .u64 (0:Int), .int .u64 (0:Int), .int .u64 (0:Int)]), (.box 770, .box [.int .u64 (0:Int), .int .u64 (0:Int), .int .u64 (0:Int), .int .u64 (0:Int)])], fun q => loopN (fun (s : (Int × Int × Int × Int × Int)) => exact_Spread_l3s p0 s.1 s.2.1 s.2.2.1 s.2.2.2.1 s.2.2.2.2) q.2 q.1 = some r, fun q => q.2⟩ (And.intro (Exists.intro [] (Exists.intro [] (Exists.intro (((0:Int), (0:Int), (0:Int), (0:Int), (0:Int)), n1) (And.intro h (And.intro rfl (And.intro ff (And.intro rfl (And.intro rfl (And.intro ff (And.intro rfl (And.intro rfl (And.intro rfl (And.intro rfl (And.intro rfl (And.intro rfl (And.intro rfl (And.intro rfl (And.intro rfl (And.intro rfl (And.intro rfl (And.intro rfl (And.intro rfl (And.intro rfl (And.intro rfl (And.intro rfl (And.intro rfl trivial)))))))))))))))))))))))))) ?_)
    clear h
    refine fun q h => ?_
    obtain ⟨⟨v3_25, v3_b4x0_0, v3_b4x0_1, v3_b4x0_2, v3_b4x0_3⟩, n1⟩ := q
    obtain ⟨m1, x1, hm1, h, hl1, hr1⟩ := loopN_step h
    replace hm1 : n1 = m1 + 1 := hm1
    subst hm1
    replace h : exact_Spread_l3s p0 v3_25 v3_b4x0_0 v3_b4x0_1 v3_b4x0_2 v3_b4x0_3 = some x1 := h
    delta exact_Spread_l3s at h
    refine Exists.intro none ?_
    refine And.intro (fun g2 => ?_) (fun g2 => ?_)
    · skip
      replace h := cT g2 h
      refine Exists.intro none ?_
      obtain ⟨x7_0, e7_0, h⟩ := bS h
      refine Exists.intro [.int .i64 x7_0.T, .int .i64 x7_0.V] (And.intro (idx_map enc_api_Item e7_0) ?_)
      refine Exists.intro none ?_
      obtain ⟨y8_6, e8_6, h⟩ := bS h
      refine Exists.intro (CK.plain _ _) (And.intro (Contract.wk (c_exact_size x7_0.V) (And.intro rfl trivial)) (And.intro rfl ?_))
      refine Exists.intro (CK.plain _ _) (And.intro (Contract.wk (c_exact_size x7_0.V) (And.intro rfl trivial)) (And.intro rfl ?_))
      refine Exists.intro (CK.plain _ _) (And.intro (Contract.wk (c_exact_quad_times (exact_quad.mk v3_b4x0_0 v3_b4x0_1 v3_b4x0_2 v3_b4x0_3) (exact_size x7_0.V) (exact_size x7_0.V) (0:Int) y8_6 e8_6) (And.intro rfl (And.intro rfl (And.intro rfl (And.intro rfl (And.intro rfl (And.intro rfl (And.intro rfl trivial)))))))) (And.intro rfl ?_))
      refine Exists.intro none ?_
      exact Exists.intro [] (Exists.intro [] (Exists.intro (((w64 (v3_25 + (1:Int))), y8_6.e0, y8_6.e1, y8_6.e2, y8_6.e3), m1) (And.intro (hl1 ((w64 (v3_25 + (1:Int))), y8_6.e0, y8_6.e1, y8_6.e2, y8_6.e3) (Option.some.inj h).symm) (And.intro (Nat.lt_succ_self m1) (And.intro rfl (And.intro ff (And.intro rfl (And.intro rfl (And.intro ff (And.intro rfl (And.intro rfl (And.intro rfl (And.intro rfl (And.intro rfl (And.intro rfl (And.intro rfl (And.intro rfl (And.intro rfl (And.intro rfl (And.intro rfl (And.intro rfl (And.intro rfl (And.intro rfl (And.intro rfl (And.intro rfl (And.intro rfl trivial))))))))))))))))))))))))))
    · skip
      replace h := cF g2 h
      replace h := popS h hr1
      refine Exists.intro none ?_
      replace h : exact_Spread_l7 p0 v3_b4x0_0 v3_b4x0_1 v3_b4x0_2 v3_b4x0_3 (0:Int) (0:Int) (0:Int) (0:Int) (0:Int) = some r := h
      delta exact_Spread_l7 at h
      obtain ⟨n1, h⟩ := loopS h
      refine Exists.intro ⟨(Int × Int × Int × Int × Int) × Nat, fun q => [(.tmp 0, .av (.lst 2 false (List.map enc_api_Item p0))), (.tmp 2, .av (.ptr 0 0)), (.tmp 4, .av (.int .u64 (wu64 (p0.length : Int)))), (.tmp 5, .av (.ptr 768 0)), (.tmp 6, .av (.ptr 769 0)), (.tmp 7, .av (.ptr 770 0)), (.tmp 10, .av (.int .i64 q.1.1)), (.box 0, .box [.int .i64 (0:Int), .int .i64 (0:Int)]), (.box 768, .box [.int .u64 v3_b4x0_0, .int .u64 v3_b4x0_1, .int .u64 v3_b4x0_2, .int .u64 v3_b4x0_3]), (.box 769, .box [.int .u64 q.1.2.1, .int .u64 q.1.2.2.1, .int .u64 q.1.2.2.2.1, .int .u64 q.1.2.2.2.2]), (.box 770, .box [.int .u64 (0:Int), .int .u64 (0:Int), .int .u64 (0:Int), .int .u64 (0:Int)])], fun q => loopN (fun (s : (Int × Int × Int × Int × Int)) => exact_Spread_l7s p0 v3_b4x0_0 v3_b4x0_1 v3_b4x0_2 v3_b4x0_3 s.1 s.2.1 s.2.2.1 s.2.2.2.1 s.2.2.2.2) q.2 q.1 = some r, fun q => q.2⟩ (And.intro (Exists.intro [] (Exists.intro [] (Exists.intro (((0:Int), (0:Int), (0:Int), (0:Int), (0:Int)), n1) (And.intro h (And.intro rfl (And.intro ff (And.intro rfl (And.intro rfl (And.intro rfl (And.intro rfl (And.intro rfl (And.intro rfl (And.intro rfl (And.intro rfl (And.intro rfl (And.intro rfl (And.intro rfl (And.intro rfl (And.intro rfl (And.intro rfl (And.intro rfl (And.intro rfl (And.intro rfl trivial))))))))))))))))))))))) ?_)
      clear h
      refine fun q h => ?_
      obtain ⟨⟨v7_10, v7_b4x1_0, v7_b4x1_1, v7_b4x1_2, v7_b4x1_3⟩, n1⟩ := q
      obtain ⟨m1, x1, hm1, h, hl1, hr1⟩ := loopN_step h
      replace hm1 : n1 = m1 + 1 := hm1
      subst hm1
      replace h : exact_Spread_l7s p0 v3_b4x0_0 v3_b4x0_1 v3_b4x0_2 v3_b4x0_3 v7_10 v7_b4x1_0 v7_b4x1_1 v7_b4x1_2 v7_b4x1_3 = some x1 := h
      delta exact_Spread_l7s at h
      refine Exists.intro none ?_
      refine And.intro (fun g3 => ?_) (fun g3 => ?_)
      · skip
        replace h := cT g3 h
        refine Exists.intro none ?_
        obtain ⟨x13_1, e13_1, h⟩ := bS h
        obtain ⟨x13_2, e13_2, h⟩ := bS h
        obtain ⟨y13_5, e13_5, h⟩ := bS h
        refine And.intro (idx_lt (eI .u64) e13_1) ?_
        refine Exists.intro [.int .u64 x13_2] (And.intro (idx_elt (eI .u64) e13_2) ?_)
        refine Exists.intro (CK.plain _ _) (And.intro (Contract.wk (c_exact_quad_times (exact_quad.mk v7_b4x1_0 v7_b4x1_1 v7_b4x1_2 v7_b4x1_3) x13_2 (wu64 (p0.length : Int)) v7_10 y13_5 e13_5) (And.intro rfl (And.intro rfl (And.intro rfl (And.intro rfl (And.intro rfl (And.intro rfl (And.intro rfl trivial)))))))) (And.intro rfl ?_))
        refine Exists.intro none ?_
        exact Exists.intro [] (Exists.intro [] (Exists.intro (((w64 (v7_10 + (1:Int))), y13_5.e0, y13_5.e1, y13_5.e2, y13_5.e3), m1) (And.intro (hl1 ((w64 (v7_10 + (1:Int))), y13_5.e0, y13_5.e1, y13_5.e2, y13_5.e3) (Option.some.inj h).symm) (And.intro (Nat.lt_succ_self m1) (And.intro rfl (And.intro ff (And.intro rfl (And.intro rfl (And.intro rfl (And.intro rfl (And.intro rfl (And.intro rfl (And.intro rfl (And.intro rfl (And.intro rfl (And.intro rfl (And.intro rfl (And.intro rfl (And.intro rfl (And.intro rfl (And.intro rfl (And.intro rfl (And.intro rfl trivial)))))))))))))))))))))))
      · skip
        replace h := cF g3 h
        replace h := popS h hr1
        refine Exists.intro none ?_
        obtain ⟨y14_1, e14_1, h⟩ := bS h
        refine Exists.intro (CK.plain _ _) (And.intro (Contract.wk (c_exact_total p0 y14_1 e14_1) (And.intro ff (And.intro rfl trivial))) (And.intro rfl ?_))
        refine Exists.intro none ?_
        obtain ⟨y15_4, e15_4, h⟩ := bS h
        refine Exists.intro (CK.plain _ _) (And.intro (Contract.wk (c_exact_quad_times (exact_quad.mk (0:Int) (0:Int) (0:Int) (0:Int)) y14_1.2.Lo y14_1.2.Lo (0:Int) y15_4 e15_4) (And.intro rfl (And.intro rfl (And.intro rfl (And.intro rfl (And.intro rfl (And.intro rfl (And.intro rfl trivial)))))))) (And.intro rfl ?_))
        refine Exists.intro none ?_
        obtain ⟨y16_4, e16_4, h⟩ := bS h
        refine Exists.intro (CK.plain _ _) (And.intro (Contract.wk (c_exact_quad_times y15_4 y14_1.2.Lo y14_1.2.Hi (1:Int) y16_4 e16_4) (And.intro rfl (And.intro rfl (And.intro rfl (And.intro rfl (And.intro rfl (And.intro rfl (And.intro rfl trivial)))))))) (And.intro rfl ?_))
        refine Exists.intro none ?_
        obtain ⟨y17_4, e17_4, h⟩ := bS h
        refine Exists.intro (CK.plain _ _) (And.intro (Contract.wk (c_exact_quad_times y16_4 y14_1.2.Lo y14_1.2.Hi (1:Int) y17_4 e17_4) (And.intro rfl (And.intro rfl (And.intro rfl (And.intro rfl (And.intro rfl (And.intro rfl (And.intro rfl trivial)))))))) (And.intro rfl ?_))
        refine Exists.intro none ?_
        obtain ⟨y18_4, e18_4, h⟩ := bS h
        refine Exists.intro (CK.plain _ _) (And.intro (Contract.wk (c_exact_quad_times y17_4 y14_1.2.Hi y14_1.2.Hi (2:Int) y18_4 e18_4) (And.intro rfl (And.intro rfl (And.intro rfl (And.intro rfl (And.intro rfl (And.intro rfl (And.intro rfl trivial)))))))) (And.intro rfl ?_))
        refine Exists.intro none ?_
        obtain ⟨y19_2, e19_2, h⟩ := bS h
        refine Exists.intro (CK.plain _ _) (And.intro (Contract.wk (c_exact_minus (exact_quad.mk v7_b4x1_0 v7_b4x1_1 v7_b4x1_2 v7_b4x1_3) y18_4 y19_2 e19_2) (And.intro rfl (And.intro rfl (And.intro rfl (And.intro rfl (And.intro rfl (And.intro rfl (And.intro rfl (And.intro rfl trivial))))))))) (And.intro rfl ?_))
        refine Exists.intro none ?_
        obtain ⟨y20_2, e20_2, h⟩ := bS h
        refine Exists.intro (CK.plain _ _) (And.intro (Contract.wk (c_exact_by y19_2 (wu64 (p0.length : Int)) y20_2 e20_2) (And.intro rfl (And.intro rfl (And.intro rfl (And.intro rfl (And.intro rfl trivial)))))) (And.intro rfl ?_))
        refine Exists.intro none ?_
        obtain ⟨y21_4, e21_4, h⟩ := bS h
        refine Exists.intro (CK.plain _ _) (And.intro (Contract.wk (c_num_Gcd (w64 (wu64 (p0.length : Int))) (w64 y20_2.2) y21_4 e21_4) (And.intro rfl (And.intro rfl trivial))) (And.intro rfl ?_))
        refine Exists.intro none ?_
        obtain ⟨y22_2, e22_2, h⟩ := bS h
        refine Exists.intro (CK.plain _ _) (And.intro (Contract.wk (c_exact_by y19_2 (wu64 y21_4) y22_2 e22_2) (And.intro rfl (And.intro rfl (And.intro rfl (And.intro rfl (And.intro rfl trivial)))))) (And.intro rfl ?_))
        refine Exists.intro none ?_
        refine Exists.intro none ?_
        refine And.intro (by decide) ?_
        refine Exists.intro [.int .u64 y22_2.1.e1] (And.intro ⟨by decide, rfl⟩ ?_)
        refine And.intro (by decide) ?_
        refine Exists.intro [.int .u64 y22_2.1.e2] (And.intro ⟨by decide, rfl⟩ ?_)
        refine And.intro (by decide) ?_
        refine Exists.intro [.int .u64 y22_2.1.e3] (And.intro ⟨by decide, rfl⟩ ?_)
        refine And.intro (fun g4 => ?_) (fun g4 => ?_)
        · skip
          refine And.intro (by decide) ?_
          refine Exists.intro [.int .u64 y22_2.1.e0] (And.intro ⟨by decide, rfl⟩ ?_)
          refine And.intro (fun g5 => ?_) (fun g5 => ?_)
          · skip
            replace h := cT (oR g4 g5) h
            refine Exists.intro none ?_
            replace h := Option.some.inj h
            first | subst h | rw [← h]
            exact (And.intro rfl (And.intro rfl (And.intro rfl trivial)))
          · skip
            replace h := cF (oR g4 g5) h
            refine Exists.intro none ?_
            obtain ⟨k25_5, h⟩ := ckS h
            refine And.intro (by decide) ?_
            refine Exists.intro [.int .u64 y22_2.1.e0] (And.intro ⟨by decide, rfl⟩ ?_)
            refine And.intro (of_decide_eq_true k25_5) ?_
            replace h := Option.some.inj h
            first | subst h | rw [← h]
            exact (And.intro rfl (And.intro rfl (And.intro rfl trivial)))
        · skip
          replace h := cT (oL g4) h
          refine Exists.intro none ?_
          replace h := Option.some.inj h
          first | subst h | rw [← h]
          exact (And.intro rfl (And.intro rfl (And.intro rfl trivial)))

theorem c_recent_good' (p0 : Int) (p1 : Int) (p2 : Int) (r : Bool) (h : recent_good p0 p1 p2 = r) : Contract Try.prog 102 [.int .i64 p0, .int .i64 p1, .int .i64 p2] [] (.sb r) [] := by
  refine contract_of_vcs tab_ok orders_ok Try.func102 Try.call102 (by kernel_rfl) 0 rfl rfl _ rfl ?_
  delta recent_good at h
  refine Exists.intro none ?_
  refine Exists.intro none ?_
  refine Exists.intro none ?_
  refine And.intro (fun g1 => ?_) (fun g1 => ?_)
  · skip
    refine And.intro (fun g2 => ?_) (fun g2 => ?_)
    · skip
      refine And.intro (fun g3 => ?_) (fun g3 => ?_)
      · skip
        refine And.intro (fun g4 => ?_) (fun g4 => ?_)
        · skip
          refine And.intro (fun g5 => ?_) (fun g5 => ?_)
          · skip
            first | subst h | rw [← h]
            exact (And.intro (Eq.symm (aR (aR (aR (aR (aR g1 g2) g3) g4) g5) rfl)) trivial)
          · skip
            first | subst h | rw [← h]
            exact (And.intro (Eq.symm (aL (aR (aR (aR (aR g1 g2) g3) g4) g5))) trivial)
        · skip
          first | subst h | rw [← h]
          exact (And.intro (Eq.symm (aL (aL (aR (aR (aR g1 g2) g3) g4)))) trivial)
      · skip
        first | subst h | rw [← h]
        exact (And.intro (Eq.symm (aL (aL (aL (aR (aR g1 g2) g3))))) trivial)
    · skip
      first | subst h | rw [← h]
      exact (And.intro (Eq.symm (aL (aL (aL (aL (aR g1 g2)))))) trivial)
  · skip
    first | subst h | rw [← h]
    exact (And.intro (Eq.symm (aL (aL (aL (aL (aL g1)))))) trivial)
theorem c_recent_good (p0 : Int) (p1 : Int) (p2 : Int) : Contract Try.prog 102 [.int .i64 p0, .int .i64 p1, .int .i64 p2] [] (.sb (recent_good p0 p1 p2)) [] := c_recent_good' p0 p1 p2 (recent_good p0 p1 p2) rfl

theorem c_exact_tick' (p0 : Int) (r : Bool) (h : exact_tick p0 = r) : Contract Try.prog 125 [.int .i64 p0] [] (.sb r) [] := by
  refine contract_of_vcs tab_ok orders_ok Try.func125 Try.call125 (by kernel_rfl) 0 rfl rfl _ rfl ?_
  delta exact_tick at h
  refine Exists.intro none ?_
  refine Exists.intro none ?_
  refine Exists.intro none ?_
  refine And.intro (fun g1 => ?_) (fun g1 => ?_)
  · skip
    first | subst h | rw [← h]
    exact (And.intro (Eq.symm (aR g1 rfl)) trivial)
  · skip
    first | subst h | rw [← h]
    exact (And.intro (Eq.symm (aL g1)) trivial)
theorem c_exact_tick (p0 : Int) : Contract Try.prog 125 [.int .i64 p0] [] (.sb (exact_tick p0)) [] := c_exact_tick' p0 (exact_tick p0) rfl

theorem c_exact_Valid (p0 : (List api_Item)) (p1 : Int) (r : Bool) (h : exact_Valid p0 p1 = some r) : Contract Try.prog 103 [.lst 2 false (List.map enc_api_Item p0), .int .i64 p1] [] (.sb r) [] := by
  refine contract_of_vcs tab_ok orders_ok Try.func103 Try.call103 (by kernel_rfl) 0 rfl rfl _ rfl ?_
  delta exact_Valid at h
  refine Exists.intro none ?_
  refine Exists.intro none ?_
  refine Exists.intro (CK.plain _ _) (And.intro (Contract.wk (c_exact_tick p1) (And.intro rfl trivial)) (And.intro rfl ?_))
  refine And.intro (fun g1 => ?_) (fun g1 => ?_)
  · skip
    replace h := cT g1 h
    refine Exists.intro none ?_
    replace h := Option.some.inj h
    first | subst h | rw [← h]
    exact (And.intro rfl trivial)
  · skip
    replace h := cF g1 h
    refine Exists.intro none ?_
    refine Exists.intro [.int .i64 (p0.length : Int)] (And.intro (lenS enc_api_Item p0) ?_)
    replace h : exact_Valid_l3 p0 p1 (0:Int) = some r := h
    delta exact_Valid_l3 at h
    obtain ⟨n1, h⟩ := loopS h
    refine Exists.intro ⟨Int × Nat, fun q => [(.tmp 0, .av (.lst 2 false (List.map enc_api_Item p0))), (.tmp 1, .av (.int .i64 p1)), (.tmp 10, .av (.lst 2 false (List.map enc_api_Item p0))), (.tmp 11, .av (.int .i64 (p0.length : Int))), (.tmp 12, .av (.int .i64 q.1))], fun q => loopN (fun (s : Int) => exact_Valid_l3s p0 p1 s) q.2 q.1 = some r, fun q => q.2⟩ (And.intro (Exists.intro [] (Exists.intro [] (Exists.intro ((0:Int), n1) (And.intro h (And.intro rfl (And.intro ff (And.intro rfl (And.intro rfl (And.intro ff (And.intro rfl (And.intro rfl (And.intro rfl trivial)))))))))))) ?_)
    clear h
    refine fun q h => ?_
    obtain ⟨v3_12, n1⟩ := q
    obtain ⟨m1, x1, hm1, h, hl1, hr1⟩ := loopN_step h
    replace hm1 : n1 = m1 + 1 := hm1
    subst hm1
    replace h : exact_Valid_l3s p0 p1 v3_12 = some x1 := h
    delta exact_Valid_l3s at h
    refine Exists.intro none ?_
    refine And.intro (fun g2 => ?_) (fun g2 => ?_)
    · skip
      replace h := cT g2 h
      refine Exists.intro none ?_
      obtain ⟨x5_1, e5_1, h⟩ := bS h
      refine Exists.intro [.int .i64 x5_1.T, .int .i64 x5_1.V] (And.intro (idx_map enc_api_Item e5_1) ?_)
      refine Exists.intro none ?_
      obtain ⟨x6_16, e6_16, h⟩ := bS h
      refine Exists.intro (some (⟨Unit, fun _ => [(.tmp 0, .av (.lst 2 false (List.map enc_api_Item p0))), (.tmp 1, .av (.int .i64 p1)), (.tmp 10, .av (.lst 2 false (List.map enc_api_Item p0))), (.tmp 11, .av (.int .i64 (p0.length : Int))), (.tmp 12, .av (.int .i64 v3_12)), (.tmp 40, .av (.sb (((decide (x5_1.T < (0:Int))) || (decide (x5_1.T > p1))) || ((decide (v3_12 > (0:Int))) && (decide (x6_16.T > x5_1.T))))))], fun _ => True, fun _ => 0⟩, 1000000)) (And.intro ?_ (fun _ _ => ?_))
      · skip
        refine And.intro (fun g3 => ?_) (fun g3 => ?_)
        · skip
          refine And.intro (fun g4 => ?_) (fun g4 => ?_)
          · skip
            refine And.intro (fun g5 => ?_) (fun g5 => ?_)
            · skip
              refine Exists.intro [.int .i64 x6_16.T, .int .i64 x6_16.V] (And.intro (idx_map enc_api_Item (gdT (aR (nE (oR g3 g4)) g5) e6_16)) ?_)
              exact Exists.intro [] (Exists.intro [] (Exists.intro () (And.intro trivial (And.intro rfl (And.intro ff (And.intro rfl (And.intro rfl (And.intro ff (And.intro rfl (And.intro rfl (And.intro rfl (And.intro (Eq.symm (oR (oR g3 g4) (aR g5 rfl))) trivial))))))))))))
            · skip
              exact Exists.intro [] (Exists.intro [] (Exists.intro () (And.intro trivial (And.intro rfl (And.intro ff (And.intro rfl (And.intro rfl (And.intro ff (And.intro rfl (And.intro rfl (And.intro rfl (And.intro (Eq.symm (oR (oR g3 g4) (aL g5))) trivial))))))))))))
          · skip
            exact Exists.intro [] (Exists.intro [] (Exists.intro () (And.intro trivial (And.intro rfl (And.intro ff (And.intro rfl (And.intro rfl (And.intro ff (And.intro rfl (And.intro rfl (And.intro rfl (And.intro (Eq.symm (oL (oR g3 g4))) trivial))))))))))))
        · skip
          exact Exists.intro [] (Exists.intro [] (Exists.intro () (And.intro trivial (And.intro rfl (And.intro ff (And.intro rfl (And.intro rfl (And.intro ff (And.intro rfl (And.intro rfl (And.intro rfl (And.intro (Eq.symm (oL (oL g3))) trivial))))))))))))
      · skip
        refine And.intro (fun g6 => ?_) (fun g6 => ?_)
        · skip
          replace h := cT g6 h
          refine Exists.intro none ?_
          replace h := retS h hr1
          first | subst h | rw [← h]
          exact (And.intro rfl trivial)
        · skip
          replace h := cF g6 h
          refine Exists.intro none ?_
          exact Exists.intro [] (Exists.intro [] (Exists.intro ((w64 (v3_12 + (1:Int))), m1) (And.intro (hl1 (w64 (v3_12 + (1:Int))) (Option.some.inj h).symm) (And.intro (Nat.lt_succ_self m1) (And.intro rfl (And.intro ff (And.intro rfl (And.intro rfl (And.intro ff (And.intro rfl (And.intro rfl (And.intro rfl trivial))))))))))))
    · skip
      replace h := cF g2 h
      replace h := popS h hr1
      refine Exists.intro none ?_
      replace h := Option.some.inj h
      first | subst h | rw [← h]
      exact (And.intro rfl trivial)

theorem c_clock_tick' (p0 : Int) (r : Bool) (h : clock_tick p0 = r) : Contract Try.prog 127 [.int .i64 p0] [] (.sb r) [] := by
  refine contract_of_vcs tab_ok orders_ok Try.func127 Try.call127 (by kernel_rfl) 0 rfl rfl _ rfl ?_
  delta clock_tick at h
  refine Exists.intro none ?_
  refine Exists.intro none ?_
  refine Exists.intro none ?_
  refine And.intro (fun g1 => ?_) (fun g1 => ?_)
  · skip
    first | subst h | rw [← h]
    exact (And.intro (Eq.symm (aR g1 rfl)) trivial)
  · skip
    first | subst h | rw [← h]
    exact (And.intro (Eq.symm (aL g1)) trivial)
theorem c_clock_tick (p0 : Int) : Contract Try.prog 127 [.int .i64 p0] [] (.sb (clock_tick p0)) [] := c_clock_tick' p0 (clock_tick p0) rfl

theorem c_clock_First' (p0 : Int) (p1 : Int) (r : Int) (h : clock_First p0 p1 = r) : Contract Try.prog 126 [.int .i64 p0, .int .i64 p1] [] (.int .i64 r) [] := by
  refine contract_of_vcs tab_ok orders_ok Try.func126 Try.call126 (by kernel_rfl) 0 rfl rfl _ rfl ?_
  delta clock_First at h
  refine Exists.intro none ?_
  refine Exists.intro none ?_
  refine Exists.intro none ?_
  refine Exists.intro (CK.plain _ _) (And.intro (Contract.wk (c_clock_tick p0) (And.intro rfl trivial)) (And.intro rfl ?_))
  refine And.intro (fun g1 => ?_) (fun g1 => ?_)
  · skip
    refine And.intro (fun g2 => ?_) (fun g2 => ?_)
    · skip
      refine And.intro (fun g3 => ?_) (fun g3 => ?_)
      · skip
        replace h := cT (oR (oR g1 g2) g3) h
        refine Exists.intro none ?_
        first | subst h | rw [← h]
        exact (And.intro rfl trivial)
      · skip
        replace h := cF (oR (oR g1 g2) g3) h
        refine Exists.intro none ?_
        first | subst h | rw [← h]
        exact (And.intro rfl trivial)
    · skip
      replace h := cT (oL (oR g1 g2)) h
      refine Exists.intro none ?_
      first | subst h | rw [← h]
      exact (And.intro rfl trivial)
  · skip
    replace h := cT (oL (oL g1)) h
    refine Exists.intro none ?_
    first | subst h | rw [← h]
    exact (And.intro rfl trivial)
theorem c_clock_First (p0 : Int) (p1 : Int) : Contract Try.prog 126 [.int .i64 p0, .int .i64 p1] [] (.int .i64 (clock_First p0 p1)) [] := c_clock_First' p0 p1 (clock_First p0 p1) rfl

theorem c_clock_Live' (p0 : Int) (p1 : Int) (p2 : Int) (r : Bool) (h : clock_Live p0 p1 p2 = r) : Contract Try.prog 104 [.int .i64 p0, .int .i64 p1, .int .i64 p2] [] (.sb r) [] := by
  refine contract_of_vcs tab_ok orders_ok Try.func104 Try.call104 (by kernel_rfl) 0 rfl rfl _ rfl ?_
  delta clock_Live at h
  refine Exists.intro none ?_
  refine Exists.intro none ?_
  refine Exists.intro (CK.plain _ _) (And.intro (Contract.wk (c_clock_First p0 p1) (And.intro rfl (And.intro rfl trivial))) (And.intro rfl ?_))
  refine Exists.intro none ?_
  refine Exists.intro none ?_
  refine And.intro (fun g1 => ?_) (fun g1 => ?_)
  · skip
    refine Exists.intro (CK.plain _ _) (And.intro (Contract.wk (c_clock_tick p2) (And.intro rfl trivial)) (And.intro rfl ?_))
    refine And.intro (fun g2 => ?_) (fun g2 => ?_)
    · skip
      refine And.intro (fun g3 => ?_) (fun g3 => ?_)
      · skip
        first | subst h | rw [← h]
        exact (And.intro (Eq.symm (aR (aR (aR g1 g2) g3) rfl)) trivial)
      · skip
        first | subst h | rw [← h]
        exact (And.intro (Eq.symm (aL (aR (aR g1 g2) g3))) trivial)
    · skip
      first | subst h | rw [← h]
      exact (And.intro (Eq.symm (aL (aL (aR g1 g2)))) trivial)
  · skip
    first | subst h | rw [← h]
    exact (And.intro (Eq.symm (aL (aL (aL g1)))) trivial)
theorem c_clock_Live (p0 : Int) (p1 : Int) (p2 : Int) : Contract Try.prog 104 [.int .i64 p0, .int .i64 p1, .int .i64 p2] [] (.sb (clock_Live p0 p1 p2)) [] := c_clock_Live' p0 p1 p2 (clock_Live p0 p1 p2) rfl

theorem c_recent_value' (p0 : Int) (r : Bool) (h : recent_value p0 = r) : Contract Try.prog 105 [.int .i64 p0] [] (.sb r) [] := by
  refine contract_of_vcs tab_ok orders_ok Try.func105 Try.call105 (by kernel_rfl) 0 rfl rfl _ rfl ?_
  delta recent_value at h
  refine Exists.intro none ?_
  refine Exists.intro none ?_
  refine Exists.intro none ?_
  refine And.intro (fun g1 => ?_) (fun g1 => ?_)
  · skip
    first | subst h | rw [← h]
    exact (And.intro (Eq.symm (aR g1 rfl)) trivial)
  · skip
    first | subst h | rw [← h]
    exact (And.intro (Eq.symm (aL g1)) trivial)
theorem c_recent_value (p0 : Int) : Contract Try.prog 105 [.int .i64 p0] [] (.sb (recent_value p0)) [] := c_recent_value' p0 (recent_value p0) rfl

theorem c_recent_Validate (p0 : api_Recent) (r : Int) (h : recent_Validate p0 = some r) : Contract Try.prog 74 [.agg [.int .i64 p0.W, .int .i64 p0.Cap, .int .i64 p0.Now, .lst 2 false (List.map enc_api_Item p0.Items)]] [] (.int .i64 r) [] := by
  refine contract_of_vcs tab_ok orders_ok Try.func74 Try.call74 (by kernel_rfl) 0 rfl rfl _ rfl ?_
  delta recent_Validate at h
  refine Exists.intro none ?_
  refine Exists.intro none ?_
  obtain ⟨y1_21, e1_21, h⟩ := bS h
  refine Exists.intro none ?_
  refine Exists.intro (CK.plain _ _) (And.intro (Contract.wk (c_recent_good p0.W p0.Cap p0.Now) (And.intro rfl (And.intro rfl (And.intro rfl trivial)))) (And.intro rfl ?_))
  refine And.intro (fun g1 => ?_) (fun g1 => ?_)
  · skip
    refine Exists.intro [.int .i64 (p0.Items.length : Int)] (And.intro (lenS enc_api_Item p0.Items) ?_)
    refine And.intro (fun g2 => ?_) (fun g2 => ?_)
    · skip
      refine Exists.intro (CK.plain _ _) (And.intro (Contract.wk (c_exact_Valid p0.Items p0.Now y1_21 (gdT (nE (oR g1 g2)) e1_21)) (And.intro ff (And.intro rfl (And.intro rfl trivial)))) (And.intro rfl ?_))
      refine And.intro (fun g3 => ?_) (fun g3 => ?_)
      · skip
        replace h := cT (oR (oR g1 g2) g3) h
        refine Exists.intro none ?_
        replace h := Option.some.inj h
        first | subst h | rw [← h]
        exact (And.intro rfl trivial)
      · skip
        replace h := cF (oR (oR g1 g2) g3) h
        refine Exists.intro none ?_
        refine Exists.intro [.int .i64 (p0.Items.length : Int)] (And.intro (lenS enc_api_Item p0.Items) ?_)
        replace h : recent_Validate_l3 p0 (0:Int) = some r := h
        delta recent_Validate_l3 at h
        obtain ⟨n1, h⟩ := loopS h
        refine Exists.intro ⟨Int × Nat, fun q => [(.tmp 1, .av (.ptr 0 0)), (.tmp 30, .av (.lst 2 false (List.map enc_api_Item p0.Items))), (.tmp 31, .av (.int .i64 (p0.Items.length : Int))), (.tmp 32, .av (.int .i64 q.1)), (.box 0, .box [.int .i64 p0.W, .int .i64 p0.Cap, .int .i64 p0.Now, .lst 2 false (List.map enc_api_Item p0.Items)])], fun q => loopN (fun (s : Int) => recent_Validate_l3s p0 s) q.2 q.1 = some r, fun q => q.2⟩ (And.intro (Exists.intro [] (Exists.intro [] (Exists.intro ((0:Int), n1) (And.intro h (And.intro rfl (And.intro ff (And.intro rfl (And.intro rfl (And.intro rfl (And.intro rfl (And.intro rfl (And.intro rfl (And.intro ff (And.intro rfl trivial)))))))))))))) ?_)
        clear h
        refine fun q h => ?_
        obtain ⟨v3_32, n1⟩ := q
        obtain ⟨m1, x1, hm1, h, hl1, hr1⟩ := loopN_step h
        replace hm1 : n1 = m1 + 1 := hm1
        subst hm1
        replace h : recent_Validate_l3s p0 v3_32 = some x1 := h
        delta recent_Validate_l3s at h
        refine Exists.intro none ?_
        refine And.intro (fun g4 => ?_) (fun g4 => ?_)
        · skip
          replace h := cT g4 h
          refine Exists.intro none ?_
          obtain ⟨x5_0, e5_0, h⟩ := bS h
          refine Exists.intro [.int .i64 x5_0.T, .int .i64 x5_0.V] (And.intro (idx_map enc_api_Item e5_0) ?_)
          refine Exists.intro none ?_
          refine Exists.intro none ?_
          refine Exists.intro (CK.plain _ _) (And.intro (Contract.wk (c_clock_Live p0.Now p0.W x5_0.T) (And.intro rfl (And.intro rfl (And.intro rfl trivial)))) (And.intro rfl ?_))
          refine And.intro (fun g5 => ?_) (fun g5 => ?_)
          · skip
            refine Exists.intro (CK.plain _ _) (And.intro (Contract.wk (c_recent_value x5_0.V) (And.intro rfl trivial)) (And.intro rfl ?_))
            refine And.intro (fun g6 => ?_) (fun g6 => ?_)
            · skip
              replace h := cT (oR g5 g6) h
              refine Exists.intro none ?_
              replace h := retS h hr1
              first | subst h | rw [← h]
              exact (And.intro rfl trivial)
            · skip
              replace h := cF (oR g5 g6) h
              refine Exists.intro none ?_
              exact Exists.intro [] (Exists.intro [] (Exists.intro ((w64 (v3_32 + (1:Int))), m1) (And.intro (hl1 (w64 (v3_32 + (1:Int))) (Option.some.inj h).symm) (And.intro (Nat.lt_succ_self m1) (And.intro rfl (And.intro ff (And.intro rfl (And.intro rfl (And.intro rfl (And.intro rfl (And.intro rfl (And.intro rfl (And.intro ff (And.intro rfl trivial))))))))))))))
          · skip
            replace h := cT (oL g5) h
            refine Exists.intro none ?_
            replace h := retS h hr1
            first | subst h | rw [← h]
            exact (And.intro rfl trivial)
        · skip
          replace h := cF g4 h
          replace h := popS h hr1
          refine Exists.intro none ?_
          replace h := Option.some.inj h
          first | subst h | rw [← h]
          exact (And.intro rfl trivial)
    · skip
      replace h := cT (oL (oR g1 g2)) h
      refine Exists.intro none ?_
      replace h := Option.some.inj h
      first | subst h | rw [← h]
      exact (And.intro rfl trivial)
  · skip
    replace h := cT (oL (oL g1)) h
    refine Exists.intro none ?_
    replace h := Option.some.inj h
    first | subst h | rw [← h]
    exact (And.intro rfl trivial)

theorem c_exact_Least (p0 : (List api_Item)) (r : (Int × Bool)) (h : exact_Least p0 = some r) : Contract Try.prog 75 [.lst 2 false (List.map enc_api_Item p0)] [] (.tup [.int .i64 r.1, .sb r.2]) [] := by
  refine contract_of_vcs tab_ok orders_ok Try.func75 Try.call75 (by kernel_rfl) 0 rfl rfl _ rfl ?_
  delta exact_Least at h
  refine Exists.intro none ?_
  refine Exists.intro none ?_
  refine Exists.intro [.int .i64 (p0.length : Int)] (And.intro (lenS enc_api_Item p0) ?_)
  refine And.intro (fun g1 => ?_) (fun g1 => ?_)
  · skip
    replace h := cT g1 h
    refine Exists.intro none ?_
    replace h := Option.some.inj h
    first | subst h | rw [← h]
    exact (And.intro rfl (And.intro rfl trivial))
  · skip
    replace h := cF g1 h
    refine Exists.intro none ?_
    obtain ⟨x3_1, e3_1, h⟩ := bS h
    refine Exists.intro [.int .i64 x3_1.T, .int .i64 x3_1.V] (And.intro (idx_map enc_api_Item e3_1) ?_)
    refine Exists.intro none ?_
    refine Exists.intro [.int .i64 (p0.length : Int)] (And.intro (lenS enc_api_Item p0) ?_)
    replace h : exact_Least_l3 p0 x3_1.V (0:Int) = some r := h
    delta exact_Least_l3 at h
    obtain ⟨n1, h⟩ := loopS h
    refine Exists.intro ⟨(Int × Int) × Nat, fun q => [(.tmp 4, .av (.int .i64 q.1.1)), (.tmp 14, .av (.lst 2 false (List.map enc_api_Item p0))), (.tmp 15, .av (.int .i64 (p0.length : Int))), (.tmp 16, .av (.int .i64 q.1.2))], fun q => loopN (fun (s : (Int × Int)) => exact_Least_l3s p0 s.1 s.2) q.2 q.1 = some r, fun q => q.2⟩ (And.intro (Exists.intro [] (Exists.intro [] (Exists.intro ((x3_1.V, (0:Int)), n1) (And.intro h (And.intro rfl (And.intro rfl (And.intro ff (And.intro rfl (And.intro rfl (And.intro rfl trivial)))))))))) ?_)
    clear h
    refine fun q h => ?_
    obtain ⟨⟨v3_4, v3_16⟩, n1⟩ := q
    obtain ⟨m1, x1, hm1, h, hl1, hr1⟩ := loopN_step h
    replace hm1 : n1 = m1 + 1 := hm1
    subst hm1
    replace h : exact_Least_l3s p0 v3_4 v3_16 = some x1 := h
    delta exact_Least_l3s at h
    refine Exists.intro none ?_
    refine And.intro (fun g2 => ?_) (fun g2 => ?_)
    · skip
      replace h := cT g2 h
      refine Exists.intro none ?_
      obtain ⟨x6_0, e6_0, h⟩ := bS h
      refine Exists.intro [.int .i64 x6_0.T, .int .i64 x6_0.V] (And.intro (idx_map enc_api_Item e6_0) ?_)
      refine Exists.intro none ?_
      refine Exists.intro none ?_
      exact Exists.intro [] (Exists.intro [] (Exists.intro (((imin v3_4 x6_0.V), (w64 (v3_16 + (1:Int)))), m1) (And.intro (hl1 ((imin v3_4 x6_0.V), (w64 (v3_16 + (1:Int)))) (Option.some.inj h).symm) (And.intro (Nat.lt_succ_self m1) (And.intro rfl (And.intro rfl (And.intro ff (And.intro rfl (And.intro rfl (And.intro rfl trivial))))))))))
    · skip
      replace h := cF g2 h
      replace h := popS h hr1
      refine Exists.intro none ?_
      replace h := Option.some.inj h
      first | subst h | rw [← h]
      exact (And.intro rfl (And.intro rfl trivial))

theorem c_exact_Greatest (p0 : (List api_Item)) (r : (Int × Bool)) (h : exact_Greatest p0 = some r) : Contract Try.prog 76 [.lst 2 false (List.map enc_api_Item p0)] [] (.tup [.int .i64 r.1, .sb r.2]) [] := by
  refine contract_of_vcs tab_ok orders_ok Try.func76 Try.call76 (by kernel_rfl) 0 rfl rfl _ rfl ?_
  delta exact_Greatest at h
  refine Exists.intro none ?_
  refine Exists.intro none ?_
  refine Exists.intro [.int .i64 (p0.length : Int)] (And.intro (lenS enc_api_Item p0) ?_)
  refine And.intro (fun g1 => ?_) (fun g1 => ?_)
  · skip
    replace h := cT g1 h
    refine Exists.intro none ?_
    replace h := Option.some.inj h
    first | subst h | rw [← h]
    exact (And.intro rfl (And.intro rfl trivial))
  · skip
    replace h := cF g1 h
    refine Exists.intro none ?_
    obtain ⟨x3_1, e3_1, h⟩ := bS h
    refine Exists.intro [.int .i64 x3_1.T, .int .i64 x3_1.V] (And.intro (idx_map enc_api_Item e3_1) ?_)
    refine Exists.intro none ?_
    refine Exists.intro [.int .i64 (p0.length : Int)] (And.intro (lenS enc_api_Item p0) ?_)
    replace h : exact_Greatest_l3 p0 x3_1.V (0:Int) = some r := h
    delta exact_Greatest_l3 at h
    obtain ⟨n1, h⟩ := loopS h
    refine Exists.intro ⟨(Int × Int) × Nat, fun q => [(.tmp 4, .av (.int .i64 q.1.1)), (.tmp 14, .av (.lst 2 false (List.map enc_api_Item p0))), (.tmp 15, .av (.int .i64 (p0.length : Int))), (.tmp 16, .av (.int .i64 q.1.2))], fun q => loopN (fun (s : (Int × Int)) => exact_Greatest_l3s p0 s.1 s.2) q.2 q.1 = some r, fun q => q.2⟩ (And.intro (Exists.intro [] (Exists.intro [] (Exists.intro ((x3_1.V, (0:Int)), n1) (And.intro h (And.intro rfl (And.intro rfl (And.intro ff (And.intro rfl (And.intro rfl (And.intro rfl trivial)))))))))) ?_)
    clear h
    refine fun q h => ?_
    obtain ⟨⟨v3_4, v3_16⟩, n1⟩ := q
    obtain ⟨m1, x1, hm1, h, hl1, hr1⟩ := loopN_step h
    replace hm1 : n1 = m1 + 1 := hm1
    subst hm1
    replace h : exact_Greatest_l3s p0 v3_4 v3_16 = some x1 := h
    delta exact_Greatest_l3s at h
    refine Exists.intro none ?_
    refine And.intro (fun g2 => ?_) (fun g2 => ?_)
    · skip
      replace h := cT g2 h
      refine Exists.intro none ?_
      obtain ⟨x6_0, e6_0, h⟩ := bS h
      refine Exists.intro [.int .i64 x6_0.T, .int .i64 x6_0.V] (And.intro (idx_map enc_api_Item e6_0) ?_)
      refine Exists.intro none ?_
      refine Exists.intro none ?_
      exact Exists.intro [] (Exists.intro [] (Exists.intro (((imax v3_4 x6_0.V), (w64 (v3_16 + (1:Int)))), m1) (And.intro (hl1 ((imax v3_4 x6_0.V), (w64 (v3_16 + (1:Int)))) (Option.some.inj h).symm) (And.intro (Nat.lt_succ_self m1) (And.intro rfl (And.intro rfl (And.intro ff (And.intro rfl (And.intro rfl (And.intro rfl trivial))))))))))
    · skip
      replace h := cF g2 h
      replace h := popS h hr1
      refine Exists.intro none ?_
      replace h := Option.some.inj h
      first | subst h | rw [← h]
      exact (And.intro rfl (And.intro rfl trivial))

theorem c_ratio_size' (p0 : Int) (r : Int) (h : ratio_size p0 = r) : Contract Try.prog 129 [.int .i64 p0] [] (.int .u64 r) [] := by
  refine contract_of_vcs tab_ok orders_ok Try.func129 Try.call129 (by kernel_rfl) 0 rfl rfl _ rfl ?_
  delta ratio_size at h
  refine Exists.intro none ?_
  refine Exists.intro none ?_
  refine And.intro (fun g1 => ?_) (fun g1 => ?_)
  · skip
    replace h := cT g1 h
    refine Exists.intro none ?_
    first | subst h | rw [← h]
    exact (And.intro rfl trivial)
  · skip
    replace h := cF g1 h
    refine Exists.intro none ?_
    first | subst h | rw [← h]
    exact (And.intro rfl trivial)
theorem c_ratio_size (p0 : Int) : Contract Try.prog 129 [.int .i64 p0] [] (.int .u64 (ratio_size p0)) [] := c_ratio_size' p0 (ratio_size p0) rfl

theorem c_wide_Gcd (p0 : api_Wide) (p1 : api_Wide) (r : api_Wide) (h : wide_Gcd p0 p1 = some r) : Contract Try.prog 128 [.agg [.int .u64 p0.Hi, .int .u64 p0.Lo], .agg [.int .u64 p1.Hi, .int .u64 p1.Lo]] [] (.agg [.int .u64 r.Hi, .int .u64 r.Lo]) [] := by
  refine contract_of_vcs tab_ok orders_ok Try.func128 Try.call128 (by kernel_rfl) 0 rfl rfl _ rfl ?_
  delta wide_Gcd at h
  refine Exists.intro none ?_
  replace h : wide_Gcd_l2 p0.Hi p0.Lo p1.Hi p1.Lo = some r := h
  delta wide_Gcd_l2 at h
  obtain ⟨n1, h⟩ := loopS h
  refine Exists.intro ⟨(Int × Int × Int × Int) × Nat, fun q => [(.tmp 2, .av (.ptr 0 0)), (.tmp 3, .av (.ptr 1 0)), (.tmp 4, .av (.ptr 2 0)), (.box 0, .box [.int .u64 q.1.1, .int .u64 q.1.2.1]), (.box 1, .box [.int .u64 q.1.2.2.1, .int .u64 q.1.2.2.2]), (.box 2, .box [.int .u64 (0:Int), .int .u64 (0:Int)])], fun q => loopN (fun (s : (Int × Int × Int × Int)) => wide_Gcd_l2s s.1 s.2.1 s.2.2.1 s.2.2.2) q.2 q.1 = some r, fun q => q.2⟩ (And.intro (Exists.intro [] (Exists.intro [] (Exists.intro ((p0.Hi, p0.Lo, p1.Hi, p1.Lo), n1) (And.intro h (And.intro rfl (And.intro rfl (And.intro rfl (And.intro rfl (And.intro rfl (And.intro rfl (And.intro rfl trivial))))))))))) ?_)
  clear h
  refine fun q h => ?_
  obtain ⟨⟨v2_b0x0_0, v2_b0x0_1, v2_b0x1_0, v2_b0x1_1⟩, n1⟩ := q
  obtain ⟨m1, x1, hm1, h, hl1, hr1⟩ := loopN_step h
  replace hm1 : n1 = m1 + 1 := hm1
  subst hm1
  replace h : wide_Gcd_l2s v2_b0x0_0 v2_b0x0_1 v2_b0x1_0 v2_b0x1_1 = some x1 := h
  delta wide_Gcd_l2s at h
  refine Exists.intro none ?_
  refine Exists.intro (CK.plain _ _) (And.intro (Contract.wk (c_wide_zero (api_Wide.mk v2_b0x1_0 v2_b0x1_1)) (And.intro rfl (And.intro rfl trivial))) (And.intro rfl ?_))
  refine And.intro (fun g1 => ?_) (fun g1 => ?_)
  · skip
    replace h := cT g1 h
    refine Exists.intro none ?_
    obtain ⟨y2_2, e2_2, h⟩ := bS h
    refine Exists.intro (CK.plain _ _) (And.intro (Contract.wk (c_wide_Div (api_Wide.mk v2_b0x0_0 v2_b0x0_1) (api_Wide.mk v2_b0x1_0 v2_b0x1_1) y2_2 e2_2) (And.intro rfl (And.intro rfl (And.intro rfl (And.intro rfl trivial))))) (And.intro rfl ?_))
    refine Exists.intro none ?_
    exact Exists.intro [] (Exists.intro [] (Exists.intro ((v2_b0x1_0, v2_b0x1_1, y2_2.2.1.Hi, y2_2.2.1.Lo), m1) (And.intro (hl1 (v2_b0x1_0, v2_b0x1_1, y2_2.2.1.Hi, y2_2.2.1.Lo) (Option.some.inj h).symm) (And.intro (Nat.lt_succ_self m1) (And.intro rfl (And.intro rfl (And.intro rfl (And.intro rfl (And.intro rfl (And.intro rfl (And.intro rfl trivial)))))))))))
  · skip
    replace h := cF g1 h
    replace h := popS h hr1
    refine Exists.intro none ?_
    replace h := Option.some.inj h
    first | subst h | rw [← h]
    exact (And.intro rfl (And.intro rfl trivial))

theorem c_ratio_Valid (p0 : api_Ratio) (r : Bool) (h : ratio_Valid p0 = some r) : Contract Try.prog 106 [.agg [.int .i64 p0.Num, .int .i64 p0.Den]] [] (.sb r) [] := by
  refine contract_of_vcs tab_ok orders_ok Try.func106 Try.call106 (by kernel_rfl) 0 rfl rfl _ rfl ?_
  delta ratio_Valid at h
  refine Exists.intro none ?_
  refine Exists.intro none ?_
  obtain ⟨y1_12, e1_12, h⟩ := bS h
  refine Exists.intro none ?_
  refine And.intro (fun g1 => ?_) (fun g1 => ?_)
  · skip
    refine Exists.intro (CK.plain _ _) (And.intro (Contract.wk (c_ratio_size p0.Num) (And.intro rfl trivial)) (And.intro rfl ?_))
    refine Exists.intro (CK.plain _ _) (And.intro (Contract.wk (c_wide_Of (ratio_size p0.Num)) (And.intro rfl trivial)) (And.intro rfl ?_))
    refine Exists.intro (CK.plain _ _) (And.intro (Contract.wk (c_wide_Of (wu64 p0.Den)) (And.intro rfl trivial)) (And.intro rfl ?_))
    refine Exists.intro (CK.plain _ _) (And.intro (Contract.wk (c_wide_Gcd (wide_Of (ratio_size p0.Num)) (wide_Of (wu64 p0.Den)) y1_12 (gdT g1 e1_12)) (And.intro rfl (And.intro rfl (And.intro rfl (And.intro rfl trivial))))) (And.intro rfl ?_))
    refine Exists.intro (CK.plain _ _) (And.intro (Contract.wk (c_wide_Of (1:Int)) (And.intro rfl trivial)) (And.intro rfl ?_))
    replace h := Option.some.inj h
    first | subst h | rw [← h]
    exact (And.intro (Eq.symm (aR g1 rfl)) trivial)
  · skip
    replace h := Option.some.inj h
    first | subst h | rw [← h]
    exact (And.intro (Eq.symm (aL g1)) trivial)

theorem c_bounds_Exact (p0 : api_Ratio) (r : api_Bounds) (h : bounds_Exact p0 = some r) : Contract Try.prog 77 [.agg [.int .i64 p0.Num, .int .i64 p0.Den]] [] (.agg [.int .i64 r.Lo.Num, .int .i64 r.Lo.Den, .int .i64 r.Est.Num, .int .i64 r.Est.Den, .int .i64 r.Hi.Num, .int .i64 r.Hi.Den]) [] := by
  refine contract_of_vcs tab_ok orders_ok Try.func77 Try.call77 (by kernel_rfl) 0 rfl rfl _ rfl ?_
  delta bounds_Exact at h
  refine Exists.intro none ?_
  refine Exists.intro none ?_
  obtain ⟨y1_1, e1_1, h⟩ := bS h
  refine Exists.intro (CK.plain _ _) (And.intro (Contract.wk (c_ratio_Valid p0 y1_1 e1_1) (And.intro rfl (And.intro rfl trivial))) (And.intro rfl ?_))
  refine And.intro (fun g1 => ?_) (fun g1 => ?_)
  · skip
    replace h := cT g1 h
    refine Exists.intro none ?_
    replace h := Option.some.inj h
    first | subst h | rw [← h]
    exact (And.intro rfl (And.intro rfl (And.intro rfl (And.intro rfl (And.intro rfl (And.intro rfl trivial))))))
  · skip
    replace h := cF g1 h
    refine Exists.intro none ?_
    replace h := Option.some.inj h
    first | subst h | rw [← h]
    exact (And.intro rfl (And.intro rfl (And.intro rfl (And.intro rfl (And.intro rfl (And.intro rfl trivial))))))

theorem c_recent_Ask (p0 : api_Recent) (p1 : api_Query) (r : (api_Answer × Int)) (h : recent_Ask p0 p1 = some r) : Contract Try.prog 46 [.agg [.int .i64 p0.W, .int .i64 p0.Cap, .int .i64 p0.Now, .lst 2 false (List.map enc_api_Item p0.Items)], .agg [.int .i64 p1.Op, .int .i64 p1.A, .int .i64 p1.B]] [] (.tup [.agg [.int .i64 r.1.Bounds.Lo.Num, .int .i64 r.1.Bounds.Lo.Den, .int .i64 r.1.Bounds.Est.Num, .int .i64 r.1.Bounds.Est.Den, .int .i64 r.1.Bounds.Hi.Num, .int .i64 r.1.Bounds.Hi.Den, .lst 1 false (List.map (eI .i64) r.1.Values), .int .u64 r.1.Fraction.Num.Hi, .int .u64 r.1.Fraction.Num.Lo, .int .u64 r.1.Fraction.Den.Hi, .int .u64 r.1.Fraction.Den.Lo], .int .i64 r.2]) [] := by
  refine contract_of_vcs tab_ok orders_ok Try.func46 Try.call46 (by kernel_rfl) 0 rfl rfl _ rfl ?_
  delta recent_Ask at h
  refine Exists.intro none ?_
  refine Exists.intro none ?_
  obtain ⟨y1_1, e1_1, h⟩ := bS h
  refine Exists.intro (CK.plain _ _) (And.intro (Contract.wk (c_recent_Validate p0 y1_1 e1_1) (And.intro rfl (And.intro rfl (And.intro rfl (And.intro ff (And.intro rfl trivial)))))) (And.intro rfl ?_))
  refine Exists.intro none ?_
  refine And.intro (fun g1 => ?_) (fun g1 => ?_)
  · skip
    replace h := cT g1 h
    refine Exists.intro none ?_
    replace h := Option.some.inj h
    first | subst h | rw [← h]
    exact (And.intro rfl (And.intro rfl (And.intro rfl (And.intro rfl (And.intro rfl (And.intro rfl (And.intro rfl (And.intro rfl (And.intro rfl (And.intro rfl (And.intro rfl (And.intro rfl trivial))))))))))))
  · skip
    replace h := cF g1 h
    refine Exists.intro none ?_
    obtain ⟨y4_2, e4_2, h⟩ := bS h
    refine Exists.intro (CK.plain _ _) (And.intro (Contract.wk (c_exact_Least p0.Items y4_2 e4_2) (And.intro ff (And.intro rfl trivial))) (And.intro rfl ?_))
    refine Exists.intro none ?_
    obtain ⟨y5_2, e5_2, h⟩ := bS h
    refine Exists.intro (CK.plain _ _) (And.intro (Contract.wk (c_exact_Greatest p0.Items y5_2 e5_2) (And.intro ff (And.intro rfl trivial))) (And.intro rfl ?_))
    refine Exists.intro none ?_
    refine Exists.intro none ?_
    refine Exists.intro none ?_
    refine Exists.intro none ?_
    refine Exists.intro (some (⟨Int, fun j3_11 => [(.tmp 4, .av (.ptr 2 0)), (.tmp 11, .av (.int .i64 j3_11)), (.box 2, .box [.int .i64 (0:Int), .int .i64 (0:Int), .int .i64 (0:Int), .int .i64 (0:Int), .int .i64 (0:Int), .int .i64 (0:Int), .nilS, .int .u64 (0:Int), .int .u64 (0:Int), .int .u64 (0:Int), .int .u64 (0:Int)])], fun j3_11 => recent_Ask_j3 j3_11 = some r, fun _ => 0⟩, 1000000)) (And.intro ?_ ?_)
    · skip
      refine And.intro (fun g2 => ?_) (fun g2 => ?_)
      · skip
        replace h := cT g2 h
        refine Exists.intro none ?_
        refine Exists.intro (CK.plain _ _) (And.intro (Contract.wk (c_exact_Count p0.Items) (And.intro ff (And.intro rfl trivial))) (And.intro rfl ?_))
        exact Exists.intro [] (Exists.intro [] (Exists.intro (exact_Count p0.Items) (And.intro h (And.intro rfl (And.intro rfl (And.intro rfl (And.intro rfl (And.intro rfl (And.intro rfl (And.intro rfl (And.intro rfl (And.intro rfl (And.intro rfl (And.intro rfl (And.intro rfl trivial)))))))))))))))
      · skip
        replace h := cF g2 h
        refine Exists.intro none ?_
        refine Exists.intro none ?_
        refine And.intro (fun g3 => ?_) (fun g3 => ?_)
        · skip
          replace h := cT g3 h
          refine Exists.intro none ?_
          obtain ⟨y12_2, e12_2, h⟩ := bS h
          refine Exists.intro (CK.plain _ _) (And.intro (Contract.wk (c_exact_Sum p0.Items y12_2 e12_2) (And.intro ff (And.intro rfl trivial))) (And.intro rfl ?_))
          exact Exists.intro [] (Exists.intro [] (Exists.intro y12_2.1 (And.intro h (And.intro rfl (And.intro rfl (And.intro rfl (And.intro rfl (And.intro rfl (And.intro rfl (And.intro rfl (And.intro rfl (And.intro rfl (And.intro rfl (And.intro rfl (And.intro rfl trivial)))))))))))))))
        · skip
          replace h := cF g3 h
          refine Exists.intro none ?_
          refine Exists.intro none ?_
          refine And.intro (fun g4 => ?_) (fun g4 => ?_)
          · skip
            replace h := cT g4 h
            refine Exists.intro none ?_
            obtain ⟨y14_2, e14_2, h⟩ := bS h
            refine Exists.intro (CK.plain _ _) (And.intro (Contract.wk (c_exact_Squares p0.Items y14_2 e14_2) (And.intro ff (And.intro rfl trivial))) (And.intro rfl ?_))
            exact Exists.intro [] (Exists.intro [] (Exists.intro y14_2.1 (And.intro h (And.intro rfl (And.intro rfl (And.intro rfl (And.intro rfl (And.intro rfl (And.intro rfl (And.intro rfl (And.intro rfl (And.intro rfl (And.intro rfl (And.intro rfl (And.intro rfl trivial)))))))))))))))
          · skip
            replace h := cF g4 h
            refine Exists.intro none ?_
            refine Exists.intro none ?_
            refine And.intro (fun g5 => ?_) (fun g5 => ?_)
            · skip
              replace h := cT g5 h
              refine Exists.intro none ?_
              exact Exists.intro [] (Exists.intro [] (Exists.intro (w64 (y5_2.1 - y4_2.1)) (And.intro h (And.intro rfl (And.intro rfl (And.intro rfl (And.intro rfl (And.intro rfl (And.intro rfl (And.intro rfl (And.intro rfl (And.intro rfl (And.intro rfl (And.intro rfl (And.intro rfl trivial)))))))))))))))
            · skip
              replace h := cF g5 h
              refine Exists.intro none ?_
              refine And.intro (fun g6 => ?_) (fun g6 => ?_)
              · skip
                replace h := cT g6 h
                refine Exists.intro none ?_
                obtain ⟨y18_2, e18_2, h⟩ := bS h
                refine Exists.intro (CK.plain _ _) (And.intro (Contract.wk (c_exact_Spread p0.Items y18_2 e18_2) (And.intro ff (And.intro rfl trivial))) (And.intro rfl ?_))
                refine Exists.intro none ?_
                obtain ⟨y19_1, e19_1, h⟩ := bS h
                refine Exists.intro (CK.plain _ _) (And.intro (Contract.wk (c_bounds_Exact y18_2.1 y19_1 e19_1) (And.intro rfl (And.intro rfl trivial))) (And.intro rfl ?_))
                replace h := Option.some.inj h
                first | subst h | rw [← h]
                exact (And.intro rfl (And.intro rfl (And.intro rfl (And.intro rfl (And.intro rfl (And.intro rfl (And.intro rfl (And.intro rfl (And.intro rfl (And.intro rfl (And.intro rfl (And.intro rfl trivial))))))))))))
              · skip
                replace h := cF g6 h
                refine Exists.intro none ?_
                refine And.intro (fun g7 => ?_) (fun g7 => ?_)
                · skip
                  replace h := cT g7 h
                  refine Exists.intro none ?_
                  refine Exists.intro [.int .i64 (p0.Items.length : Int)] (And.intro (lenS enc_api_Item p0.Items) ?_)
                  refine And.intro (fun g8 => ?_) (fun g8 => ?_)
                  · skip
                    replace h := cT g8 h
                    refine Exists.intro none ?_
                    replace h := Option.some.inj h
                    first | subst h | rw [← h]
                    exact (And.intro rfl (And.intro rfl (And.intro rfl (And.intro rfl (And.intro rfl (And.intro rfl (And.intro rfl (And.intro rfl (And.intro rfl (And.intro rfl (And.intro rfl (And.intro rfl trivial))))))))))))
                  · skip
                    replace h := cF g8 h
                    refine Exists.intro none ?_
                    replace h := Option.some.inj h
                    first | subst h | rw [← h]
                    exact (And.intro rfl (And.intro rfl (And.intro rfl (And.intro rfl (And.intro rfl (And.intro rfl (And.intro ff (And.intro (by first | rfl | (simp only [encZ, List.map_append, List.map_cons, List.map_nil, List.map_take, List.map_drop, List.map_set, List.map_replicate]; done) | (simp only [encZ, List.map_append, List.map_cons, List.map_nil, List.map_take, List.map_drop, List.map_set, List.map_replicate]; rfl) | (simp only [encZ, List.map_append, List.map_cons, List.map_nil, List.map_take, List.map_drop, List.map_set, List.map_replicate, eL, enc_api_Ranks, enc_api_Recent, enc_api_Answer]; done) | (simp only [encZ, List.map_append, List.map_cons, List.map_nil, List.map_take, List.map_drop, List.map_set, List.map_replicate, eL, enc_api_Ranks, enc_api_Recent, enc_api_Answer]; rfl)) (And.intro rfl (And.intro rfl (And.intro rfl (And.intro rfl (And.intro rfl trivial)))))))))))))
                · skip
                  replace h := cF g7 h
                  refine Exists.intro none ?_
                  refine And.intro (fun g9 => ?_) (fun g9 => ?_)
                  · skip
                    replace h := cT g9 h
                    refine Exists.intro none ?_
                    obtain ⟨y25_4, e25_4, h⟩ := bS h
                    refine Exists.intro (CK.plain _ _) (And.intro (Contract.wk (c_exact_Rank p0.Items p1.A y25_4 e25_4) (And.intro ff (And.intro rfl (And.intro rfl trivial)))) (And.intro rfl ?_))
                    exact Exists.intro [] (Exists.intro [] (Exists.intro y25_4 (And.intro h (And.intro rfl (And.intro rfl (And.intro rfl (And.intro rfl (And.intro rfl (And.intro rfl (And.intro rfl (And.intro rfl (And.intro rfl (And.intro rfl (And.intro rfl (And.intro rfl trivial)))))))))))))))
                  · skip
                    replace h := cF g9 h
                    refine Exists.intro none ?_
                    refine And.intro (fun g10 => ?_) (fun g10 => ?_)
                    · skip
                      replace h := cT g10 h
                      refine Exists.intro none ?_
                      refine Exists.intro none ?_
                      refine And.intro (fun g11 => ?_) (fun g11 => ?_)
                      · skip
                        refine And.intro (fun g12 => ?_) (fun g12 => ?_)
                        · skip
                          refine And.intro (fun g13 => ?_) (fun g13 => ?_)
                          · skip
                            replace h := cT (oR (oR g11 g12) g13) h
                            refine Exists.intro none ?_
                            replace h := Option.some.inj h
                            first | subst h | rw [← h]
                            exact (And.intro rfl (And.intro rfl (And.intro rfl (And.intro rfl (And.intro rfl (And.intro rfl (And.intro rfl (And.intro rfl (And.intro rfl (And.intro rfl (And.intro rfl (And.intro rfl trivial))))))))))))
                          · skip
                            replace h := cF (oR (oR g11 g12) g13) h
                            refine Exists.intro none ?_
                            obtain ⟨y29_6, e29_6, h⟩ := bS h
                            refine Exists.intro (CK.plain _ _) (And.intro (Contract.wk (c_exact_Quantile p0.Items p1.A p1.B y29_6 e29_6) (And.intro ff (And.intro rfl (And.intro rfl (And.intro rfl trivial))))) (And.intro rfl ?_))
                            refine Exists.intro none ?_
                            refine And.intro (fun g14 => ?_) (fun g14 => ?_)
                            · skip
                              replace h := cT g14 h
                              refine Exists.intro none ?_
                              replace h := Option.some.inj h
                              first | subst h | rw [← h]
                              exact (And.intro rfl (And.intro rfl (And.intro rfl (And.intro rfl (And.intro rfl (And.intro rfl (And.intro rfl (And.intro rfl (And.intro rfl (And.intro rfl (And.intro rfl (And.intro rfl trivial))))))))))))
                            · skip
                              replace h := cF g14 h
                              refine Exists.intro none ?_
                              replace h := Option.some.inj h
                              first | subst h | rw [← h]
                              exact (And.intro rfl (And.intro rfl (And.intro rfl (And.intro rfl (And.intro rfl (And.intro rfl (And.intro ff (And.intro (by first | rfl | (simp only [encZ, List.map_append, List.map_cons, List.map_nil, List.map_take, List.map_drop, List.map_set, List.map_replicate]; done) | (simp only [encZ, List.map_append, List.map_cons, List.map_nil, List.map_take, List.map_drop, List.map_set, List.map_replicate]; rfl) | (simp only [encZ, List.map_append, List.map_cons, List.map_nil, List.map_take, List.map_drop, List.map_set, List.map_replicate, eL, enc_api_Ranks, enc_api_Recent, enc_api_Answer]; done) | (simp only [encZ, List.map_append, List.map_cons, List.map_nil, List.map_take, List.map_drop, List.map_set, List.map_replicate, eL, enc_api_Ranks, enc_api_Recent, enc_api_Answer]; rfl)) (And.intro rfl (And.intro rfl (And.intro rfl (And.intro rfl (And.intro rfl trivial)))))))))))))
                        · skip
                          replace h := cT (oL (oR g11 g12)) h
                          refine Exists.intro none ?_
                          replace h := Option.some.inj h
                          first | subst h | rw [← h]
                          exact (And.intro rfl (And.intro rfl (And.intro rfl (And.intro rfl (And.intro rfl (And.intro rfl (And.intro rfl (And.intro rfl (And.intro rfl (And.intro rfl (And.intro rfl (And.intro rfl trivial))))))))))))
                      · skip
                        replace h := cT (oL (oL g11)) h
                        refine Exists.intro none ?_
                        replace h := Option.some.inj h
                        first | subst h | rw [← h]
                        exact (And.intro rfl (And.intro rfl (And.intro rfl (And.intro rfl (And.intro rfl (And.intro rfl (And.intro rfl (And.intro rfl (And.intro rfl (And.intro rfl (And.intro rfl (And.intro rfl trivial))))))))))))
                    · skip
                      replace h := cF g10 h
                      refine Exists.intro none ?_
                      replace h := Option.some.inj h
                      first | subst h | rw [← h]
                      exact (And.intro rfl (And.intro rfl (And.intro rfl (And.intro rfl (And.intro rfl (And.intro rfl (And.intro rfl (And.intro rfl (And.intro rfl (And.intro rfl (And.intro rfl (And.intro rfl trivial))))))))))))
    · skip
      clear h
      refine fun j3_11 h => ?_
      replace h : recent_Ask_j3 j3_11 = some r := h
      delta recent_Ask_j3 at h
      refine Exists.intro none ?_
      obtain ⟨y33_2, e33_2, h⟩ := bS h
      refine Exists.intro (CK.plain _ _) (And.intro (Contract.wk (c_ratio_Of j3_11) (And.intro rfl trivial)) (And.intro rfl ?_))
      refine Exists.intro (CK.plain _ _) (And.intro (Contract.wk (c_bounds_Exact (ratio_Of j3_11) y33_2 e33_2) (And.intro rfl (And.intro rfl trivial))) (And.intro rfl ?_))
      replace h := Option.some.inj h
      first | subst h | rw [← h]
      exact (And.intro rfl (And.intro rfl (And.intro rfl (And.intro rfl (And.intro rfl (And.intro rfl (And.intro rfl (And.intro rfl (And.intro rfl (And.intro rfl (And.intro rfl (And.intro rfl trivial))))))))))))

theorem c_ref01_Abs' (p0 : Int) (r : Int) (h : ref01_Abs p0 = r) : Contract Try.prog 131 [.int .i64 p0] [] (.int .u64 r) [] := by
  refine contract_of_vcs tab_ok orders_ok Try.func131 Try.call131 (by kernel_rfl) 0 rfl rfl _ rfl ?_
  delta ref01_Abs at h
  refine Exists.intro none ?_
  refine Exists.intro none ?_
  refine And.intro (fun g1 => ?_) (fun g1 => ?_)
  · skip
    replace h := cT g1 h
    refine Exists.intro none ?_
    first | subst h | rw [← h]
    exact (And.intro rfl trivial)
  · skip
    replace h := cF g1 h
    refine Exists.intro none ?_
    first | subst h | rw [← h]
    exact (And.intro rfl trivial)
theorem c_ref01_Abs (p0 : Int) : Contract Try.prog 131 [.int .i64 p0] [] (.int .u64 (ref01_Abs p0)) [] := c_ref01_Abs' p0 (ref01_Abs p0) rfl

theorem c_ref02_Gcd (p0 : api_Wide) (p1 : api_Wide) (r : api_Wide) (h : ref02_Gcd p0 p1 = some r) : Contract Try.prog 130 [.agg [.int .u64 p0.Hi, .int .u64 p0.Lo], .agg [.int .u64 p1.Hi, .int .u64 p1.Lo]] [] (.agg [.int .u64 r.Hi, .int .u64 r.Lo]) [] := by
  refine contract_of_vcs tab_ok orders_ok Try.func130 Try.call130 (by kernel_rfl) 0 rfl rfl _ rfl ?_
  delta ref02_Gcd at h
  refine Exists.intro none ?_
  replace h : ref02_Gcd_l2 p0.Hi p0.Lo p1.Hi p1.Lo = some r := h
  delta ref02_Gcd_l2 at h
  obtain ⟨n1, h⟩ := loopS h
  refine Exists.intro ⟨(Int × Int × Int × Int) × Nat, fun q => [(.tmp 2, .av (.ptr 0 0)), (.tmp 3, .av (.ptr 1 0)), (.tmp 4, .av (.ptr 2 0)), (.box 0, .box [.int .u64 q.1.1, .int .u64 q.1.2.1]), (.box 1, .box [.int .u64 q.1.2.2.1, .int .u64 q.1.2.2.2]), (.box 2, .box [.int .u64 (0:Int), .int .u64 (0:Int)])], fun q => loopN (fun (s : (Int × Int × Int × Int)) => ref02_Gcd_l2s s.1 s.2.1 s.2.2.1 s.2.2.2) q.2 q.1 = some r, fun q => q.2⟩ (And.intro (Exists.intro [] (Exists.intro [] (Exists.intro ((p0.Hi, p0.Lo, p1.Hi, p1.Lo), n1) (And.intro h (And.intro rfl (And.intro rfl (And.intro rfl (And.intro rfl (And.intro rfl (And.intro rfl (And.intro rfl trivial))))))))))) ?_)
  clear h
  refine fun q h => ?_
  obtain ⟨⟨v2_b0x0_0, v2_b0x0_1, v2_b0x1_0, v2_b0x1_1⟩, n1⟩ := q
  obtain ⟨m1, x1, hm1, h, hl1, hr1⟩ := loopN_step h
  replace hm1 : n1 = m1 + 1 := hm1
  subst hm1
  replace h : ref02_Gcd_l2s v2_b0x0_0 v2_b0x0_1 v2_b0x1_0 v2_b0x1_1 = some x1 := h
  delta ref02_Gcd_l2s at h
  refine Exists.intro none ?_
  refine And.intro (fun g1 => ?_) (fun g1 => ?_)
  · skip
    replace h := cT g1 h
    refine Exists.intro none ?_
    obtain ⟨y2_2, e2_2, h⟩ := bS h
    refine Exists.intro (CK.plain _ _) (And.intro (Contract.wk (c_ref02_Div (api_Wide.mk v2_b0x0_0 v2_b0x0_1) (api_Wide.mk v2_b0x1_0 v2_b0x1_1) y2_2 e2_2) (And.intro rfl (And.intro rfl (And.intro rfl (And.intro rfl trivial))))) (And.intro rfl ?_))
    refine Exists.intro none ?_
    exact Exists.intro [] (Exists.intro [] (Exists.intro ((v2_b0x1_0, v2_b0x1_1, y2_2.2.1.Hi, y2_2.2.1.Lo), m1) (And.intro (hl1 (v2_b0x1_0, v2_b0x1_1, y2_2.2.1.Hi, y2_2.2.1.Lo) (Option.some.inj h).symm) (And.intro (Nat.lt_succ_self m1) (And.intro rfl (And.intro rfl (And.intro rfl (And.intro rfl (And.intro rfl (And.intro rfl (And.intro rfl trivial)))))))))))
  · skip
    replace h := cF g1 h
    replace h := popS h hr1
    refine Exists.intro none ?_
    replace h := Option.some.inj h
    first | subst h | rw [← h]
    exact (And.intro rfl (And.intro rfl trivial))

theorem c_ref03_Valid (p0 : api_Ratio) (r : Bool) (h : ref03_Valid p0 = some r) : Contract Try.prog 107 [.agg [.int .i64 p0.Num, .int .i64 p0.Den]] [] (.sb r) [] := by
  refine contract_of_vcs tab_ok orders_ok Try.func107 Try.call107 (by kernel_rfl) 0 rfl rfl _ rfl ?_
  delta ref03_Valid at h
  refine Exists.intro none ?_
  refine Exists.intro none ?_
  obtain ⟨y1_12, e1_12, h⟩ := bS h
  refine Exists.intro none ?_
  refine And.intro (fun g1 => ?_) (fun g1 => ?_)
  · skip
    refine Exists.intro (CK.plain _ _) (And.intro (Contract.wk (c_ref01_Abs p0.Num) (And.intro rfl trivial)) (And.intro rfl ?_))
    refine Exists.intro (CK.plain _ _) (And.intro (Contract.wk (c_ref02_Of (ref01_Abs p0.Num)) (And.intro rfl trivial)) (And.intro rfl ?_))
    refine Exists.intro (CK.plain _ _) (And.intro (Contract.wk (c_ref02_Of (wu64 p0.Den)) (And.intro rfl trivial)) (And.intro rfl ?_))
    refine Exists.intro (CK.plain _ _) (And.intro (Contract.wk (c_ref02_Gcd (ref02_Of (ref01_Abs p0.Num)) (ref02_Of (wu64 p0.Den)) y1_12 (gdT g1 e1_12)) (And.intro rfl (And.intro rfl (And.intro rfl (And.intro rfl trivial))))) (And.intro rfl ?_))
    refine Exists.intro (CK.plain _ _) (And.intro (Contract.wk (c_ref02_Of (1:Int)) (And.intro rfl trivial)) (And.intro rfl ?_))
    replace h := Option.some.inj h
    first | subst h | rw [← h]
    exact (And.intro (Eq.symm (aR g1 rfl)) trivial)
  · skip
    replace h := Option.some.inj h
    first | subst h | rw [← h]
    exact (And.intro (Eq.symm (aL g1)) trivial)

theorem c_ref04_Exact (p0 : api_Ratio) (r : api_Bounds) (h : ref04_Exact p0 = some r) : Contract Try.prog 79 [.agg [.int .i64 p0.Num, .int .i64 p0.Den]] [] (.agg [.int .i64 r.Lo.Num, .int .i64 r.Lo.Den, .int .i64 r.Est.Num, .int .i64 r.Est.Den, .int .i64 r.Hi.Num, .int .i64 r.Hi.Den]) [] := by
  refine contract_of_vcs tab_ok orders_ok Try.func79 Try.call79 (by kernel_rfl) 0 rfl rfl _ rfl ?_
  delta ref04_Exact at h
  refine Exists.intro none ?_
  refine Exists.intro none ?_
  obtain ⟨y1_1, e1_1, h⟩ := bS h
  refine Exists.intro (CK.plain _ _) (And.intro (Contract.wk (c_ref03_Valid p0 y1_1 e1_1) (And.intro rfl (And.intro rfl trivial))) (And.intro rfl ?_))
  refine And.intro (fun g1 => ?_) (fun g1 => ?_)
  · skip
    replace h := cT g1 h
    refine Exists.intro none ?_
    replace h := Option.some.inj h
    first | subst h | rw [← h]
    exact (And.intro rfl (And.intro rfl (And.intro rfl (And.intro rfl (And.intro rfl (And.intro rfl trivial))))))
  · skip
    replace h := cF g1 h
    refine Exists.intro none ?_
    replace h := Option.some.inj h
    first | subst h | rw [← h]
    exact (And.intro rfl (And.intro rfl (And.intro rfl (And.intro rfl (And.intro rfl (And.intro rfl trivial))))))

theorem c_ref08_Whole (p0 : Int) (r : api_Bounds) (h : ref08_Whole p0 = some r) : Contract Try.prog 47 [.int .i64 p0] [] (.agg [.int .i64 r.Lo.Num, .int .i64 r.Lo.Den, .int .i64 r.Est.Num, .int .i64 r.Est.Den, .int .i64 r.Hi.Num, .int .i64 r.Hi.Den]) [] := by
  refine contract_of_vcs tab_ok orders_ok Try.func47 Try.call47 (by kernel_rfl) 0 rfl rfl _ rfl ?_
  delta ref08_Whole at h
  refine Exists.intro none ?_
  refine Exists.intro none ?_
  obtain ⟨y1_2, e1_2, h⟩ := bS h
  refine Exists.intro (CK.plain _ _) (And.intro (Contract.wk (c_ref03_Of p0) (And.intro rfl trivial)) (And.intro rfl ?_))
  refine Exists.intro (CK.plain _ _) (And.intro (Contract.wk (c_ref04_Exact (ref03_Of p0) y1_2 e1_2) (And.intro rfl (And.intro rfl trivial))) (And.intro rfl ?_))
  replace h := Option.some.inj h
  first | subst h | rw [← h]
  exact (And.intro rfl (And.intro rfl (And.intro rfl (And.intro rfl (And.intro rfl (And.intro rfl trivial))))))

theorem c_ref09_SameNumbers (p0 : (List Int)) (p1 : (List Int)) (r : Bool) (h : ref09_SameNumbers p0 p1 = some r) : Contract Try.prog 48 [.lst 1 false (List.map (eI .i64) p0), .lst 1 false (List.map (eI .i64) p1)] [] (.sb r) [] := by
  refine contract_of_vcs tab_ok orders_ok Try.func48 Try.call48 (by kernel_rfl) 0 rfl rfl _ rfl ?_
  delta ref09_SameNumbers at h
  refine Exists.intro none ?_
  refine Exists.intro none ?_
  refine Exists.intro [.int .i64 (p0.length : Int)] (And.intro (lenS (eI .i64) p0) ?_)
  refine Exists.intro [.int .i64 (p1.length : Int)] (And.intro (lenS (eI .i64) p1) ?_)
  refine And.intro (fun g1 => ?_) (fun g1 => ?_)
  · skip
    replace h := cT g1 h
    refine Exists.intro none ?_
    replace h := Option.some.inj h
    first | subst h | rw [← h]
    exact (And.intro rfl trivial)
  · skip
    replace h := cF g1 h
    refine Exists.intro none ?_
    refine Exists.intro [.int .i64 (p0.length : Int)] (And.intro (lenS (eI .i64) p0) ?_)
    replace h : ref09_SameNumbers_l3 p0 p1 (0:Int) = some r := h
    delta ref09_SameNumbers_l3 at h
    obtain ⟨n1, h⟩ := loopS h
    refine Exists.intro ⟨Int × Nat, fun q => [(.tmp 0, .av (.lst 1 false (List.map (eI .i64) p0))), (.tmp 1, .av (.lst 1 false (List.map (eI .i64) p1))), (.tmp 12, .av (.int .i64 (p0.length : Int))), (.tmp 13, .av (.int .i64 q.1))], fun q => loopN (fun (s : Int) => ref09_SameNumbers_l3s p0 p1 s) q.2 q.1 = some r, fun q => q.2⟩ (And.intro (Exists.intro [] (Exists.intro [] (Exists.intro ((0:Int), n1) (And.intro h (And.intro rfl (And.intro ff (And.intro rfl (And.intro ff (And.intro rfl (And.intro rfl (And.intro rfl trivial))))))))))) ?_)
    clear h
    refine fun q h => ?_
    obtain ⟨v3_13, n1⟩ := q
    obtain ⟨m1, x1, hm1, h, hl1, hr1⟩ := loopN_step h
    replace hm1 : n1 = m1 + 1 := hm1
    subst hm1
    replace h : ref09_SameNumbers_l3s p0 p1 v3_13 = some x1 := h
    delta ref09_SameNumbers_l3s at h
    refine Exists.intro none ?_
    refine And.intro (fun g2 => ?_) (fun g2 => ?_)
    · skip
      replace h := cT g2 h
      refine Exists.intro none ?_
      refine Exists.intro none ?_
      obtain ⟨x6_2, e6_2, h⟩ := bS h
      obtain ⟨x6_6, e6_6, h⟩ := bS h
      refine Exists.intro [.int .i64 x6_2] (And.intro (idx_map (eI .i64) e6_2) ?_)
      refine Exists.intro [.int .i64 x6_6] (And.intro (idx_map (eI .i64) e6_6) ?_)
      refine And.intro (fun g3 => ?_) (fun g3 => ?_)
      · skip
        replace h := cT g3 h
        refine Exists.intro none ?_
        replace h := retS h hr1
        first | subst h | rw [← h]
        exact (And.intro rfl trivial)
      · skip
        replace h := cF g3 h
        refine Exists.intro none ?_
        exact Exists.intro [] (Exists.intro [] (Exists.intro ((w64 (v3_13 + (1:Int))), m1) (And.intro (hl1 (w64 (v3_13 + (1:Int))) (Option.some.inj h).symm) (And.intro (Nat.lt_succ_self m1) (And.intro rfl (And.intro ff (And.intro rfl (And.intro ff (And.intro rfl (And.intro rfl (And.intro rfl trivial)))))))))))
    · skip
      replace h := cF g2 h
      replace h := popS h hr1
      refine Exists.intro none ?_
      replace h := Option.some.inj h
      first | subst h | rw [← h]
      exact (And.intro rfl trivial)

theorem c_recent_New' (p0 : Int) (p1 : Int) (p2 : Int) (r : (api_Recent × Int)) (h : recent_New p0 p1 p2 = r) : Contract Try.prog 81 [.int .i64 p0, .int .i64 p1, .int .i64 p2] [] (.tup [.agg [.int .i64 r.1.W, .int .i64 r.1.Cap, .int .i64 r.1.Now, .lst 2 false (List.map enc_api_Item r.1.Items)], .int .i64 r.2]) [] := by
  refine contract_of_vcs tab_ok orders_ok Try.func81 Try.call81 (by kernel_rfl) 0 rfl rfl _ rfl ?_
  delta recent_New at h
  refine Exists.intro none ?_
  refine Exists.intro none ?_
  refine Exists.intro (CK.plain _ _) (And.intro (Contract.wk (c_recent_good p0 p1 p2) (And.intro rfl (And.intro rfl (And.intro rfl trivial)))) (And.intro rfl ?_))
  refine And.intro (fun g1 => ?_) (fun g1 => ?_)
  · skip
    replace h := cT g1 h
    refine Exists.intro none ?_
    first | subst h | rw [← h]
    exact (And.intro rfl (And.intro rfl (And.intro rfl (And.intro rfl (And.intro rfl trivial)))))
  · skip
    replace h := cF g1 h
    refine Exists.intro none ?_
    first | subst h | rw [← h]
    exact (And.intro rfl (And.intro rfl (And.intro rfl (And.intro rfl (And.intro rfl trivial)))))
theorem c_recent_New (p0 : Int) (p1 : Int) (p2 : Int) : Contract Try.prog 81 [.int .i64 p0, .int .i64 p1, .int .i64 p2] [] (.tup [.agg [.int .i64 (recent_New p0 p1 p2).1.W, .int .i64 (recent_New p0 p1 p2).1.Cap, .int .i64 (recent_New p0 p1 p2).1.Now, .lst 2 false (List.map enc_api_Item (recent_New p0 p1 p2).1.Items)], .int .i64 (recent_New p0 p1 p2).2]) [] := c_recent_New' p0 p1 p2 (recent_New p0 p1 p2) rfl

theorem c_recent_Add (p0 : api_Recent) (p1 : Int) (r : (api_Recent × Int)) (h : recent_Add p0 p1 = some r) : Contract Try.prog 82 [.agg [.int .i64 p0.W, .int .i64 p0.Cap, .int .i64 p0.Now, .lst 2 false (List.map enc_api_Item p0.Items)], .int .i64 p1] [] (.tup [.agg [.int .i64 r.1.W, .int .i64 r.1.Cap, .int .i64 r.1.Now, .lst 2 false (List.map enc_api_Item r.1.Items)], .int .i64 r.2]) [] := by
  refine contract_of_vcs tab_ok orders_ok Try.func82 Try.call82 (by kernel_rfl) 0 rfl rfl _ rfl ?_
  delta recent_Add at h
  refine Exists.intro none ?_
  refine Exists.intro none ?_
  obtain ⟨y1_1, e1_1, h⟩ := bS h
  refine Exists.intro (CK.plain _ _) (And.intro (Contract.wk (c_recent_Validate p0 y1_1 e1_1) (And.intro rfl (And.intro rfl (And.intro rfl (And.intro ff (And.intro rfl trivial)))))) (And.intro rfl ?_))
  refine Exists.intro none ?_
  refine And.intro (fun g1 => ?_) (fun g1 => ?_)
  · skip
    replace h := cT g1 h
    refine Exists.intro none ?_
    replace h := Option.some.inj h
    first | subst h | rw [← h]
    exact (And.intro rfl (And.intro rfl (And.intro rfl (And.intro rfl (And.intro rfl trivial)))))
  · skip
    replace h := cF g1 h
    refine Exists.intro none ?_
    refine Exists.intro (CK.plain _ _) (And.intro (Contract.wk (c_recent_value p1) (And.intro rfl trivial)) (And.intro rfl ?_))
    refine And.intro (fun g2 => ?_) (fun g2 => ?_)
    · skip
      replace h := cT g2 h
      refine Exists.intro none ?_
      replace h := Option.some.inj h
      first | subst h | rw [← h]
      exact (And.intro rfl (And.intro rfl (And.intro rfl (And.intro rfl (And.intro rfl trivial)))))
    · skip
      replace h := cF g2 h
      refine Exists.intro none ?_
      refine Exists.intro [.int .i64 (p0.Items.length : Int)] (And.intro (lenS enc_api_Item p0.Items) ?_)
      refine And.intro (fun g3 => ?_) (fun g3 => ?_)
      · skip
        replace h := cT g3 h
        refine Exists.intro none ?_
        replace h := Option.some.inj h
        first | subst h | rw [← h]
        exact (And.intro rfl (And.intro rfl (And.intro rfl (And.intro rfl (And.intro rfl trivial)))))
      · skip
        replace h := cF g3 h
        refine Exists.intro none ?_
        refine Exists.intro [.int .i64 (p0.Items.length : Int)] (And.intro (lenS enc_api_Item p0.Items) ?_)
        refine Exists.intro none ?_
        obtain ⟨k9_4, h⟩ := ckS h
        obtain ⟨k9_10, h⟩ := ckS h
        refine And.intro (by have hh := (of_decide_eq_true k9_4); (try simp only [encZ, fixRows_length, List.length_map, List.length_append, List.length_take, List.length_drop, List.length_set, List.length_replicate, List.length_cons, List.length_nil] at hh); (try simp only [encZ, fixRows_length, List.length_map, List.length_append, List.length_take, List.length_drop, List.length_set, List.length_replicate, List.length_cons, List.length_nil]); (try simp only [w64, wu64] at hh); (try simp only [w64, wu64]); omega) ?_
        refine And.intro (by have hh := (of_decide_eq_true k9_10); refine ⟨fun e => ?_, ?_⟩; (have h0 := congrArg List.length e; have h1 := List.length_pos_iff.2 hh.1; (try simp only [encZ, fixRows_length, List.length_map, List.length_append, List.length_take, List.length_drop, List.length_set, List.length_replicate, List.length_cons, List.length_nil] at h0); (try simp only [encZ, fixRows_length, List.length_map, List.length_append, List.length_take, List.length_drop, List.length_set, List.length_replicate, List.length_cons, List.length_nil] at h1); omega); replace hh := hh.2; (try simp only [encZ, fixRows_length, List.length_map, List.length_append, List.length_take, List.length_drop, List.length_set, List.length_replicate, List.length_cons, List.length_nil] at hh); (try simp only [encZ, fixRows_length, List.length_map, List.length_append, List.length_take, List.length_drop, List.length_set, List.length_replicate, List.length_cons, List.length_nil]); omega) ?_
        refine Exists.intro none ?_
        replace h := Option.some.inj h
        first | subst h | rw [← h]
        exact (And.intro rfl (And.intro rfl (And.intro rfl (And.intro ff (And.intro (by first | rfl | (simp only [encZ, List.map_append, List.map_cons, List.map_nil, List.map_take, List.map_drop, List.map_set, List.map_replicate]; done) | (simp only [encZ, List.map_append, List.map_cons, List.map_nil, List.map_take, List.map_drop, List.map_set, List.map_replicate]; rfl) | (simp only [encZ, List.map_append, List.map_cons, List.map_nil, List.map_take, List.map_drop, List.map_set, List.map_replicate, eL, enc_api_Ranks, enc_api_Recent, enc_api_Answer]; done) | (simp only [encZ, List.map_append, List.map_cons, List.map_nil, List.map_take, List.map_drop, List.map_set, List.map_replicate, eL, enc_api_Ranks, enc_api_Recent, enc_api_Answer]; rfl)) (And.intro rfl trivial))))))

theorem c_law09_awake (r : Bool) (h : law09_awake = some r) : Contract Try.prog 49 [] [] (.sb r) [] := by
  refine contract_of_vcs tab_ok orders_ok Try.func49 Try.call49 (by kernel_rfl) 0 rfl rfl _ rfl ?_
  delta law09_awake at h
  refine Exists.intro none ?_
  refine Exists.intro none ?_
  refine Exists.intro (CK.plain _ _) (And.intro (Contract.wk (c_recent_New (3:Int) (2:Int) (0:Int)) (And.intro rfl (And.intro rfl (And.intro rfl trivial)))) (And.intro rfl ?_))
  refine Exists.intro none ?_
  obtain ⟨y2_1, e2_1, h⟩ := bS h
  refine Exists.intro (CK.plain _ _) (And.intro (Contract.wk (c_recent_Add (recent_New (3:Int) (2:Int) (0:Int)).1 (5:Int) y2_1 e2_1) (And.intro rfl (And.intro rfl (And.intro rfl (And.intro ff (And.intro rfl (And.intro rfl trivial))))))) (And.intro rfl ?_))
  refine Exists.intro none ?_
  refine Exists.intro none ?_
  refine And.intro (fun g1 => ?_) (fun g1 => ?_)
  · skip
    refine And.intro (fun g2 => ?_) (fun g2 => ?_)
    · skip
      refine Exists.intro [.int .i64 (y2_1.1.Items.length : Int)] (And.intro (lenS enc_api_Item y2_1.1.Items) ?_)
      replace h := Option.some.inj h
      first | subst h | rw [← h]
      exact (And.intro (Eq.symm (aR (aR g1 g2) rfl)) trivial)
    · skip
      replace h := Option.some.inj h
      first | subst h | rw [← h]
      exact (And.intro (Eq.symm (aL (aR g1 g2))) trivial)
  · skip
    replace h := Option.some.inj h
    first | subst h | rw [← h]
    exact (And.intro (Eq.symm (aL (aL g1))) trivial)

theorem c_law09_RecentTruth (p0 : (List api_Item)) (p1 : Int) (p2 : Int) (p3 : Int) (p4 : Int) (r : Bool) (h : law09_RecentTruth p0 p1 p2 p3 p4 = some r) : Contract Try.prog 11 [.lst 2 false (List.map enc_api_Item p0), .int .i64 p1, .int .i64 p2, .int .i64 p3, .int .i64 p4] [] (.sb r) [] := by
  refine contract_of_vcs tab_ok orders_ok Try.func11 Try.call11 (by kernel_rfl) 0 rfl rfl _ rfl ?_
  delta law09_RecentTruth at h
  refine Exists.intro none ?_
  refine Exists.intro none ?_
  obtain ⟨y1_1, e1_1, h⟩ := bS h
  obtain ⟨y1_4, e1_4, h⟩ := bS h
  refine Exists.intro (CK.plain _ _) (And.intro (Contract.wk (c_made_Mod p1 (20:Int) y1_1 e1_1) (And.intro rfl (And.intro rfl trivial))) (And.intro rfl ?_))
  refine Exists.intro (CK.plain _ _) (And.intro (Contract.wk (c_made_Mod p4 (20:Int) y1_4 e1_4) (And.intro rfl (And.intro rfl trivial))) (And.intro rfl ?_))
  refine Exists.intro none ?_
  obtain ⟨y2_3, e2_3, h⟩ := bS h
  refine Exists.intro (CK.plain _ _) (And.intro (Contract.wk (c_made_Mod p3 (w64 ((w64 ((1:Int) + y1_4)) + (1:Int))) y2_3 e2_3) (And.intro rfl (And.intro rfl trivial))) (And.intro rfl ?_))
  refine Exists.intro none ?_
  refine Exists.intro none ?_
  obtain ⟨y4_2, e4_2, h⟩ := bS h
  refine Exists.intro (CK.plain _ _) (And.intro (Contract.wk (c_made_Items p0 (w64 ((1:Int) + y1_1)) (60:Int) y4_2 e4_2) (And.intro ff (And.intro rfl (And.intro rfl (And.intro rfl trivial))))) (And.intro rfl ?_))
  refine Exists.intro none ?_
  refine Exists.intro [.int .i64 (y4_2.length : Int)] (And.intro (lenS enc_api_Item y4_2) ?_)
  refine Exists.intro (some (⟨Int × (List api_Item), fun q => [(.tmp 2, .av (.int .i64 p2)), (.tmp 3, .av (.int .i64 y2_3)), (.tmp 4, .av (.int .i64 (w64 ((1:Int) + y1_4)))), (.tmp 11, .av (.ptr 770 0)), (.box 770, .box [.int .i64 (w64 ((1:Int) + y1_1)), .int .i64 (60:Int), .int .i64 q.1, .lst 2 false (List.map enc_api_Item q.2)])], fun q => law09_RecentTruth_j1 p2 y1_1 y1_4 y2_3 q.1 q.2 = some r, fun _ => 0⟩, 1000000)) (And.intro ?_ ?_)
  · skip
    refine And.intro (fun g1 => ?_) (fun g1 => ?_)
    · skip
      replace h := cT g1 h
      refine Exists.intro none ?_
      obtain ⟨x6_4, e6_4, h⟩ := bS h
      refine Exists.intro [.int .i64 (y4_2.length : Int)] (And.intro (lenS enc_api_Item y4_2) ?_)
      refine Exists.intro [.int .i64 x6_4.T, .int .i64 x6_4.V] (And.intro (idx_map enc_api_Item e6_4) ?_)
      refine Exists.intro none ?_
      obtain ⟨y7_4, e7_4, h⟩ := bS h
      refine Exists.intro (CK.plain _ _) (And.intro (Contract.wk (c_made_Live y4_2 x6_4.T (w64 ((1:Int) + y1_1)) y7_4 e7_4) (And.intro ff (And.intro rfl (And.intro rfl (And.intro rfl trivial))))) (And.intro rfl ?_))
      exact Exists.intro [] (Exists.intro [] (Exists.intro (x6_4.T, y7_4) (And.intro h (And.intro rfl (And.intro rfl (And.intro rfl (And.intro rfl (And.intro rfl (And.intro rfl (And.intro rfl (And.intro ff (And.intro rfl trivial))))))))))))
    · skip
      replace h := cF g1 h
      exact Exists.intro [] (Exists.intro [] (Exists.intro ((0:Int), ([] : List api_Item)) (And.intro h (And.intro rfl (And.intro rfl (And.intro rfl (And.intro rfl (And.intro rfl (And.intro rfl (And.intro rfl (And.intro rfl trivial)))))))))))
  · skip
    clear h
    refine fun q h => ?_
    obtain ⟨j1_b3x2_2, j1_b3x2_3⟩ := q
    replace h : law09_RecentTruth_j1 p2 y1_1 y1_4 y2_3 j1_b3x2_2 j1_b3x2_3 = some r := h
    delta law09_RecentTruth_j1 at h
    refine Exists.intro none ?_
    obtain ⟨y8_2, e8_2, h⟩ := bS h
    refine Exists.intro (CK.plain _ _) (And.intro (Contract.wk (c_exact_Sum j1_b3x2_3 y8_2 e8_2) (And.intro ff (And.intro rfl trivial))) (And.intro rfl ?_))
    refine Exists.intro none ?_
    obtain ⟨y9_2, e9_2, h⟩ := bS h
    refine Exists.intro (CK.plain _ _) (And.intro (Contract.wk (c_exact_Spread j1_b3x2_3 y9_2 e9_2) (And.intro ff (And.intro rfl trivial))) (And.intro rfl ?_))
    refine Exists.intro none ?_
    obtain ⟨y10_2, e10_2, h⟩ := bS h
    refine Exists.intro (CK.plain _ _) (And.intro (Contract.wk (c_recent_Ask (api_Recent.mk (w64 ((1:Int) + y1_1)) (60:Int) j1_b3x2_2 j1_b3x2_3) (api_Query.mk (2:Int) (0:Int) (0:Int)) y10_2 e10_2) (And.intro rfl (And.intro rfl (And.intro rfl (And.intro ff (And.intro rfl (And.intro rfl (And.intro rfl (And.intro rfl trivial))))))))) (And.intro rfl ?_))
    refine Exists.intro none ?_
    obtain ⟨y11_2, e11_2, h⟩ := bS h
    refine Exists.intro (CK.plain _ _) (And.intro (Contract.wk (c_recent_Ask (api_Recent.mk (w64 ((1:Int) + y1_1)) (60:Int) j1_b3x2_2 j1_b3x2_3) (api_Query.mk (5:Int) (0:Int) (0:Int)) y11_2 e11_2) (And.intro rfl (And.intro rfl (And.intro rfl (And.intro ff (And.intro rfl (And.intro rfl (And.intro rfl (And.intro rfl trivial))))))))) (And.intro rfl ?_))
    refine Exists.intro none ?_
    obtain ⟨y12_3, e12_3, h⟩ := bS h
    refine Exists.intro (CK.plain _ _) (And.intro (Contract.wk (c_recent_Ask (api_Recent.mk (w64 ((1:Int) + y1_1)) (60:Int) j1_b3x2_2 j1_b3x2_3) (api_Query.mk (7:Int) p2 (0:Int)) y12_3 e12_3) (And.intro rfl (And.intro rfl (And.intro rfl (And.intro ff (And.intro rfl (And.intro rfl (And.intro rfl (And.intro rfl trivial))))))))) (And.intro rfl ?_))
    refine Exists.intro none ?_
    obtain ⟨y13_22, e13_22, h⟩ := bS h
    obtain ⟨y13_38, e13_38, h⟩ := bS h
    obtain ⟨y13_39, e13_39, h⟩ := bS h
    refine Exists.intro none ?_
    refine And.intro (fun g2 => ?_) (fun g2 => ?_)
    · skip
      refine And.intro (fun g3 => ?_) (fun g3 => ?_)
      · skip
        refine And.intro (fun g4 => ?_) (fun g4 => ?_)
        · skip
          refine And.intro (fun g5 => ?_) (fun g5 => ?_)
          · skip
            refine And.intro (fun g6 => ?_) (fun g6 => ?_)
            · skip
              refine Exists.intro (CK.plain _ _) (And.intro (Contract.wk (c_ref08_Whole y8_2.1 y13_22 (gdT (nE (oR (oR (oR (oR g2 g3) g4) g5) g6)) e13_22)) (And.intro rfl trivial)) (And.intro rfl ?_))
              refine And.intro (fun g7 => ?_) (fun g7 => ?_)
              · skip
                refine And.intro (fun g8 => ?_) (fun g8 => ?_)
                · skip
                  refine Exists.intro (CK.plain _ _) (And.intro (Contract.wk (c_ref08_Rank j1_b3x2_3 p2 y13_38 (gdT (nE (oR (oR (oR (oR (oR (oR g2 g3) g4) g5) g6) g7) g8)) e13_38)) (And.intro ff (And.intro rfl (And.intro rfl trivial)))) (And.intro rfl ?_))
                  refine Exists.intro (CK.plain _ _) (And.intro (Contract.wk (c_ref08_Whole y13_38 y13_39 (gdT (nE (oR (oR (oR (oR (oR (oR g2 g3) g4) g5) g6) g7) g8)) e13_39)) (And.intro rfl trivial)) (And.intro rfl ?_))
                  refine And.intro (fun g9 => ?_) (fun g9 => ?_)
                  · skip
                    replace h := cT (oR (oR (oR (oR (oR (oR (oR g2 g3) g4) g5) g6) g7) g8) g9) h
                    refine Exists.intro none ?_
                    replace h := Option.some.inj h
                    first | subst h | rw [← h]
                    exact (And.intro rfl trivial)
                  · skip
                    replace h := cF (oR (oR (oR (oR (oR (oR (oR g2 g3) g4) g5) g6) g7) g8) g9) h
                    refine Exists.intro none ?_
                    obtain ⟨y15_4, e15_4, h⟩ := bS h
                    refine Exists.intro (CK.plain _ _) (And.intro (Contract.wk (c_recent_Ask (api_Recent.mk (w64 ((1:Int) + y1_1)) (60:Int) j1_b3x2_2 j1_b3x2_3) (api_Query.mk (8:Int) y2_3 (w64 ((1:Int) + y1_4))) y15_4 e15_4) (And.intro rfl (And.intro rfl (And.intro rfl (And.intro ff (And.intro rfl (And.intro rfl (And.intro rfl (And.intro rfl trivial))))))))) (And.intro rfl ?_))
                    refine Exists.intro none ?_
                    obtain ⟨y16_4, e16_4, h⟩ := bS h
                    refine Exists.intro (CK.plain _ _) (And.intro (Contract.wk (c_exact_Quantile j1_b3x2_3 y2_3 (w64 ((1:Int) + y1_4)) y16_4 e16_4) (And.intro ff (And.intro rfl (And.intro rfl (And.intro rfl trivial))))) (And.intro rfl ?_))
                    refine Exists.intro none ?_
                    obtain ⟨y17_10, e17_10, h⟩ := bS h
                    obtain ⟨y17_21, e17_21, h⟩ := bS h
                    refine Exists.intro none ?_
                    refine And.intro (fun g10 => ?_) (fun g10 => ?_)
                    · skip
                      refine And.intro (fun g11 => ?_) (fun g11 => ?_)
                      · skip
                        refine Exists.intro (CK.plain _ _) (And.intro (Contract.wk (c_ref09_SameNumbers y15_4.1.Values [y16_4.1] y17_10 (gdT (aR g10 g11) e17_10)) (And.intro ff (And.intro rfl (And.intro ff (And.intro (by first | rfl | (simp only [encZ, List.map_append, List.map_cons, List.map_nil, List.map_take, List.map_drop, List.map_set, List.map_replicate]; done) | (simp only [encZ, List.map_append, List.map_cons, List.map_nil, List.map_take, List.map_drop, List.map_set, List.map_replicate]; rfl) | (simp only [encZ, List.map_append, List.map_cons, List.map_nil, List.map_take, List.map_drop, List.map_set, List.map_replicate, eL, enc_api_Ranks, enc_api_Recent, enc_api_Answer]; done) | (simp only [encZ, List.map_append, List.map_cons, List.map_nil, List.map_take, List.map_drop, List.map_set, List.map_replicate, eL, enc_api_Ranks, enc_api_Recent, enc_api_Answer]; rfl)) trivial))))) (And.intro rfl ?_))
                        refine And.intro (fun g12 => ?_) (fun g12 => ?_)
                        · skip
                          refine And.intro (fun g13 => ?_) (fun g13 => ?_)
                          · skip
                            refine And.intro (fun g14 => ?_) (fun g14 => ?_)
                            · skip
                              refine Exists.intro (CK.plain _ _) (And.intro (Contract.wk (c_law09_awake y17_21 (gdT (oR (aR (aR g10 g11) g12) (aR g13 g14)) e17_21)) trivial) (And.intro rfl ?_))
                              replace h := Option.some.inj h
                              first | subst h | rw [← h]
                              exact (And.intro (Eq.symm (aR (oR (aR (aR g10 g11) g12) (aR g13 g14)) rfl)) trivial)
                            · skip
                              replace h := Option.some.inj h
                              first | subst h | rw [← h]
                              exact (And.intro (Eq.symm (aL (oR (aR (aR g10 g11) g12) (aL (nE g10))))) trivial)
                          · skip
                            replace h := Option.some.inj h
                            first | subst h | rw [← h]
                            exact (And.intro (Eq.symm (aL (oR (aR (aR g10 g11) g12) (aL g13)))) trivial)
                        · skip
                          refine Exists.intro (CK.plain _ _) (And.intro (Contract.wk (c_law09_awake y17_21 (gdT (oL (aR (aR g10 g11) g12)) e17_21)) trivial) (And.intro rfl ?_))
                          replace h := Option.some.inj h
                          first | subst h | rw [← h]
                          exact (And.intro (Eq.symm (aR (oL (aR (aR g10 g11) g12)) rfl)) trivial)
                      · skip
                        refine And.intro (fun g15 => ?_) (fun g15 => ?_)
                        · skip
                          refine And.intro (fun g16 => ?_) (fun g16 => ?_)
                          · skip
                            refine Exists.intro (CK.plain _ _) (And.intro (Contract.wk (c_law09_awake y17_21 (gdT (oR (aL (aR g10 g11)) (aR g15 g16)) e17_21)) trivial) (And.intro rfl ?_))
                            replace h := Option.some.inj h
                            first | subst h | rw [← h]
                            exact (And.intro (Eq.symm (aR (oR (aL (aR g10 g11)) (aR g15 g16)) rfl)) trivial)
                          · skip
                            replace h := Option.some.inj h
                            first | subst h | rw [← h]
                            exact (And.intro (Eq.symm (aL (oR (aL (aR g10 g11)) (aL (nE g10))))) trivial)
                        · skip
                          replace h := Option.some.inj h
                          first | subst h | rw [← h]
                          exact (And.intro (Eq.symm (aL (oR (aL (aR g10 g11)) (aL g15)))) trivial)
                    · skip
                      refine And.intro (fun g17 => ?_) (fun g17 => ?_)
                      · skip
                        refine And.intro (fun g18 => ?_) (fun g18 => ?_)
                        · skip
                          refine Exists.intro (CK.plain _ _) (And.intro (Contract.wk (c_law09_awake y17_21 (gdT (oR (aL (aL g10)) (aR g17 g18)) e17_21)) trivial) (And.intro rfl ?_))
                          replace h := Option.some.inj h
                          first | subst h | rw [← h]
                          exact (And.intro (Eq.symm (aR (oR (aL (aL g10)) (aR g17 g18)) rfl)) trivial)
                        · skip
                          replace h := Option.some.inj h
                          first | subst h | rw [← h]
                          exact (And.intro (Eq.symm (aL (oR (aL (aL g10)) (aR g17 g18)))) trivial)
                      · skip
                        replace h := Option.some.inj h
                        first | subst h | rw [← h]
                        exact (And.intro (Eq.symm (aL (oR (aL (aL g10)) (aL g17)))) trivial)
                · skip
                  replace h := cT (oL (oR (oR (oR (oR (oR (oR g2 g3) g4) g5) g6) g7) g8)) h
                  refine Exists.intro none ?_
                  replace h := Option.some.inj h
                  first | subst h | rw [← h]
                  exact (And.intro rfl trivial)
              · skip
                replace h := cT (oL (oL (oR (oR (oR (oR (oR g2 g3) g4) g5) g6) g7))) h
                refine Exists.intro none ?_
                replace h := Option.some.inj h
                first | subst h | rw [← h]
                exact (And.intro rfl trivial)
            · skip
              replace h := cT (oL (oL (oL (oR (oR (oR (oR g2 g3) g4) g5) g6)))) h
              refine Exists.intro none ?_
              replace h := Option.some.inj h
              first | subst h | rw [← h]
              exact (And.intro rfl trivial)
          · skip
            replace h := cT (oL (oL (oL (oL (oR (oR (oR g2 g3) g4) g5))))) h
            refine Exists.intro none ?_
            replace h := Option.some.inj h
            first | subst h | rw [← h]
            exact (And.intro rfl trivial)
        · skip
          replace h := cT (oL (oL (oL (oL (oL (oR (oR g2 g3) g4)))))) h
          refine Exists.intro none ?_
          replace h := Option.some.inj h
          first | subst h | rw [← h]
          exact (And.intro rfl trivial)
      · skip
        replace h := cT (oL (oL (oL (oL (oL (oL (oR g2 g3))))))) h
        refine Exists.intro none ?_
        replace h := Option.some.inj h
        first | subst h | rw [← h]
        exact (And.intro rfl trivial)
    · skip
      replace h := cT (oL (oL (oL (oL (oL (oL (oL g2))))))) h
      refine Exists.intro none ?_
      replace h := Option.some.inj h
      first | subst h | rw [← h]
      exact (And.intro rfl trivial)

end Go.Proofs.Ytpclnmpmammlfaa
