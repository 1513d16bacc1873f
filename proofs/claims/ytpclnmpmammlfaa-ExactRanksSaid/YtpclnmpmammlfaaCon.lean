/- The contracts: each function of the program does what its function on plain data says. Made by program. -/
import Derived.Test.YtpclnmpmammlfaaTab
import Derived.Test.YtpclnmpmammlfaaWin
import Derived.Test.YtpclnmpmammlfaaWalk
import Derived.Test.YtpclnmpmammlfaaSrt
set_option linter.unusedVariables false
set_option linter.unusedSimpArgs false
set_option linter.unnecessarySimpa false
set_option maxHeartbeats 4000000
namespace Go.Proofs.Ytpclnmpmammlfaa
open Go.Vc Go.Dec Go.Win

theorem c_math_bits_Len64 (p0 : Int) (r : Int) (h : math_bits_Len64 p0 = some r) : Contract Try.prog 118 [.int .u64 p0] [] (.int .i64 r) [] := by
  unfold math_bits_Len64 at h
  obtain ⟨k, h⟩ := ckS h
  obtain ⟨k1, k2⟩ := of_decide_eq_true k
  cases h
  exact calls_contract1 Try.call118 fun w => walk_Len64 p0 w k1 k2

theorem c_ref08_Below (p0 : (List api_Item)) (p1 : Int) (r : Int) (h : ref08_Below p0 p1 = some r) : Contract Try.prog 30 [.lst 2 false (List.map enc_api_Item p0), .int .i64 p1] [] (.int .i64 r) [] := by
  refine contract_of_vcs tab_ok orders_ok Try.func30 Try.call30 (by kernel_rfl) 0 rfl rfl _ rfl ?_
  delta ref08_Below at h
  refine Exists.intro none ?_
  refine Exists.intro none ?_
  refine Exists.intro none ?_
  refine Exists.intro [.int .i64 (p0.length : Int)] (And.intro (lenS enc_api_Item p0) ?_)
  replace h : ref08_Below_l2 p0 p1 (0:Int) (0:Int) = some r := h
  delta ref08_Below_l2 at h
  obtain ⟨n1, h⟩ := loopS h
  refine Exists.intro ⟨(Int × Int) × Nat, fun q => [(.tmp 1, .av (.int .i64 p1)), (.tmp 5, .av (.int .i64 q.1.1)), (.tmp 8, .av (.lst 2 false (List.map enc_api_Item p0))), (.tmp 9, .av (.int .i64 (p0.length : Int))), (.tmp 10, .av (.int .i64 q.1.2))], fun q => loopN (fun (s : (Int × Int)) => ref08_Below_l2s p0 p1 s.1 s.2) q.2 q.1 = some r, fun q => q.2⟩ (And.intro (Exists.intro [] (Exists.intro [] (Exists.intro (((0:Int), (0:Int)), n1) (And.intro h (And.intro rfl (And.intro rfl (And.intro rfl (And.intro ff (And.intro rfl (And.intro rfl (And.intro rfl trivial))))))))))) ?_)
  clear h
  refine fun q h => ?_
  obtain ⟨⟨v2_5, v2_10⟩, n1⟩ := q
  obtain ⟨m1, x1, hm1, h, hl1, hr1⟩ := loopN_step h
  replace hm1 : n1 = m1 + 1 := hm1
  subst hm1
  replace h : ref08_Below_l2s p0 p1 v2_5 v2_10 = some x1 := h
  delta ref08_Below_l2s at h
  refine Exists.intro none ?_
  refine And.intro (fun g1 => ?_) (fun g1 => ?_)
  · skip
    replace h := cT g1 h
    refine Exists.intro none ?_
    refine Exists.intro none ?_
    obtain ⟨x4_0, e4_0, h⟩ := bS h
    refine Exists.intro [.int .i64 x4_0.T, .int .i64 x4_0.V] (And.intro (idx_map enc_api_Item e4_0) ?_)
    refine Exists.intro none ?_
    refine Exists.intro none ?_
    refine And.intro (fun g2 => ?_) (fun g2 => ?_)
    · skip
      replace h := cT g2 h
      refine Exists.intro none ?_
      refine Exists.intro none ?_
      exact Exists.intro [] (Exists.intro [] (Exists.intro (((w64 (v2_5 + (1:Int))), (w64 (v2_10 + (1:Int)))), m1) (And.intro (hl1 ((w64 (v2_5 + (1:Int))), (w64 (v2_10 + (1:Int)))) (Option.some.inj h).symm) (And.intro (Nat.lt_succ_self m1) (And.intro rfl (And.intro rfl (And.intro rfl (And.intro ff (And.intro rfl (And.intro rfl (And.intro rfl trivial)))))))))))
    · skip
      replace h := cF g2 h
      refine Exists.intro none ?_
      exact Exists.intro [] (Exists.intro [] (Exists.intro ((v2_5, (w64 (v2_10 + (1:Int)))), m1) (And.intro (hl1 (v2_5, (w64 (v2_10 + (1:Int)))) (Option.some.inj h).symm) (And.intro (Nat.lt_succ_self m1) (And.intro rfl (And.intro rfl (And.intro rfl (And.intro ff (And.intro rfl (And.intro rfl (And.intro rfl trivial)))))))))))
  · skip
    replace h := cF g1 h
    replace h := popS h hr1
    refine Exists.intro none ?_
    replace h := Option.some.inj h
    first | subst h | rw [← h]
    exact (And.intro rfl trivial)

theorem c_ref08_Rank (p0 : (List api_Item)) (p1 : Int) (r : Int) (h : ref08_Rank p0 p1 = some r) : Contract Try.prog 31 [.lst 2 false (List.map enc_api_Item p0), .int .i64 p1] [] (.int .i64 r) [] := by
  refine contract_of_vcs tab_ok orders_ok Try.func31 Try.call31 (by kernel_rfl) 0 rfl rfl _ rfl ?_
  delta ref08_Rank at h
  refine Exists.intro none ?_
  refine Exists.intro none ?_
  refine Exists.intro none ?_
  refine Exists.intro [.int .i64 (p0.length : Int)] (And.intro (lenS enc_api_Item p0) ?_)
  replace h : ref08_Rank_l2 p0 p1 (0:Int) (0:Int) = some r := h
  delta ref08_Rank_l2 at h
  obtain ⟨n1, h⟩ := loopS h
  refine Exists.intro ⟨(Int × Int) × Nat, fun q => [(.tmp 1, .av (.int .i64 p1)), (.tmp 5, .av (.int .i64 q.1.1)), (.tmp 8, .av (.lst 2 false (List.map enc_api_Item p0))), (.tmp 9, .av (.int .i64 (p0.length : Int))), (.tmp 10, .av (.int .i64 q.1.2))], fun q => loopN (fun (s : (Int × Int)) => ref08_Rank_l2s p0 p1 s.1 s.2) q.2 q.1 = some r, fun q => q.2⟩ (And.intro (Exists.intro [] (Exists.intro [] (Exists.intro (((0:Int), (0:Int)), n1) (And.intro h (And.intro rfl (And.intro rfl (And.intro rfl (And.intro ff (And.intro rfl (And.intro rfl (And.intro rfl trivial))))))))))) ?_)
  clear h
  refine fun q h => ?_
  obtain ⟨⟨v2_5, v2_10⟩, n1⟩ := q
  obtain ⟨m1, x1, hm1, h, hl1, hr1⟩ := loopN_step h
  replace hm1 : n1 = m1 + 1 := hm1
  subst hm1
  replace h : ref08_Rank_l2s p0 p1 v2_5 v2_10 = some x1 := h
  delta ref08_Rank_l2s at h
  refine Exists.intro none ?_
  refine And.intro (fun g1 => ?_) (fun g1 => ?_)
  · skip
    replace h := cT g1 h
    refine Exists.intro none ?_
    refine Exists.intro none ?_
    obtain ⟨x4_0, e4_0, h⟩ := bS h
    refine Exists.intro [.int .i64 x4_0.T, .int .i64 x4_0.V] (And.intro (idx_map enc_api_Item e4_0) ?_)
    refine Exists.intro none ?_
    refine Exists.intro none ?_
    refine And.intro (fun g2 => ?_) (fun g2 => ?_)
    · skip
      replace h := cT g2 h
      refine Exists.intro none ?_
      refine Exists.intro none ?_
      exact Exists.intro [] (Exists.intro [] (Exists.intro (((w64 (v2_5 + (1:Int))), (w64 (v2_10 + (1:Int)))), m1) (And.intro (hl1 ((w64 (v2_5 + (1:Int))), (w64 (v2_10 + (1:Int)))) (Option.some.inj h).symm) (And.intro (Nat.lt_succ_self m1) (And.intro rfl (And.intro rfl (And.intro rfl (And.intro ff (And.intro rfl (And.intro rfl (And.intro rfl trivial)))))))))))
    · skip
      replace h := cF g2 h
      refine Exists.intro none ?_
      exact Exists.intro [] (Exists.intro [] (Exists.intro ((v2_5, (w64 (v2_10 + (1:Int)))), m1) (And.intro (hl1 (v2_5, (w64 (v2_10 + (1:Int)))) (Option.some.inj h).symm) (And.intro (Nat.lt_succ_self m1) (And.intro rfl (And.intro rfl (And.intro rfl (And.intro ff (And.intro rfl (And.intro rfl (And.intro rfl trivial)))))))))))
  · skip
    replace h := cF g1 h
    replace h := popS h hr1
    refine Exists.intro none ?_
    replace h := Option.some.inj h
    first | subst h | rw [← h]
    exact (And.intro rfl trivial)

theorem c_num_size' (p0 : Int) (r : Int) (h : num_size p0 = r) : Contract Try.prog 119 [.int .i64 p0] [] (.int .u64 r) [] := by
  refine contract_of_vcs tab_ok orders_ok Try.func119 Try.call119 (by kernel_rfl) 0 rfl rfl _ rfl ?_
  delta num_size at h
  refine Exists.intro none ?_
  refine Exists.intro none ?_
  refine And.intro (fun g1 => ?_) (fun g1 => ?_)
  · skip
    replace h := cT g1 h
    refine Exists.intro none ?_
    first | subst h | rw [← h]
    exact (And.intro rfl trivial)
  · skip
    replace h := cF g1 h
    refine Exists.intro none ?_
    first | subst h | rw [← h]
    exact (And.intro rfl trivial)
theorem c_num_size (p0 : Int) : Contract Try.prog 119 [.int .i64 p0] [] (.int .u64 (num_size p0)) [] := c_num_size' p0 (num_size p0) rfl

theorem c_math_bits_Mul64' (p0 : Int) (p1 : Int) (r : (Int × Int)) (h : math_bits_Mul64 p0 p1 = r) : Contract Try.prog 93 [.int .u64 p0, .int .u64 p1] [] (.tup [.int .u64 r.1, .int .u64 r.2]) [] := by
  refine contract_of_vcs tab_ok orders_ok Try.func93 Try.call93 (by kernel_rfl) 0 rfl rfl _ rfl ?_
  delta math_bits_Mul64 at h
  refine Exists.intro none ?_
  refine Exists.intro none ?_
  refine Exists.intro none ?_
  refine And.intro (by decide) ?_
  refine Exists.intro none ?_
  refine Exists.intro none ?_
  refine And.intro (by decide) ?_
  refine Exists.intro none ?_
  refine Exists.intro none ?_
  refine And.intro (by decide) ?_
  refine Exists.intro none ?_
  refine Exists.intro none ?_
  refine And.intro (by decide) ?_
  refine Exists.intro none ?_
  refine Exists.intro none ?_
  refine And.intro (by decide) ?_
  refine Exists.intro none ?_
  first | subst h | rw [← h]
  exact (And.intro rfl (And.intro rfl trivial))
theorem c_math_bits_Mul64 (p0 : Int) (p1 : Int) : Contract Try.prog 93 [.int .u64 p0, .int .u64 p1] [] (.tup [.int .u64 (math_bits_Mul64 p0 p1).1, .int .u64 (math_bits_Mul64 p0 p1).2]) [] := c_math_bits_Mul64' p0 p1 (math_bits_Mul64 p0 p1) rfl

theorem c_num_Mul' (p0 : Int) (p1 : Int) (r : (Int × Bool)) (h : num_Mul p0 p1 = r) : Contract Try.prog 86 [.int .i64 p0, .int .i64 p1] [] (.tup [.int .i64 r.1, .sb r.2]) [] := by
  refine contract_of_vcs tab_ok orders_ok Try.func86 Try.call86 (by kernel_rfl) 0 rfl rfl _ rfl ?_
  delta num_Mul at h
  refine Exists.intro none ?_
  refine Exists.intro none ?_
  refine Exists.intro (CK.plain _ _) (And.intro (Contract.wk (c_num_size p0) (And.intro rfl trivial)) (And.intro rfl ?_))
  refine Exists.intro (CK.plain _ _) (And.intro (Contract.wk (c_num_size p1) (And.intro rfl trivial)) (And.intro rfl ?_))
  refine Exists.intro (CK.plain _ _) (And.intro (Contract.wk (c_math_bits_Mul64 (num_size p0) (num_size p1)) (And.intro rfl (And.intro rfl trivial))) (And.intro rfl ?_))
  refine Exists.intro none ?_
  refine Exists.intro none ?_
  refine Exists.intro none ?_
  refine Exists.intro (some (⟨Int, fun j1_9 => [(.tmp 6, .av (.int .u64 (math_bits_Mul64 (num_size p0) (num_size p1)).1)), (.tmp 7, .av (.int .u64 (math_bits_Mul64 (num_size p0) (num_size p1)).2)), (.tmp 8, .av (.sb (!((decide (p0 < (0:Int))) == (decide (p1 < (0:Int))))))), (.tmp 9, .av (.int .u64 j1_9))], fun j1_9 => num_Mul_j1 p0 p1 (math_bits_Mul64 (num_size p0) (num_size p1)) j1_9 = r, fun _ => 0⟩, 1000000)) (And.intro ?_ ?_)
  · skip
    refine And.intro (fun g1 => ?_) (fun g1 => ?_)
    · skip
      replace h := cT g1 h
      refine Exists.intro none ?_
      exact Exists.intro [] (Exists.intro [] (Exists.intro (wu64 ((9223372036854775807:Int) + (1:Int))) (And.intro h (And.intro rfl (And.intro rfl (And.intro rfl (And.intro rfl (And.intro rfl trivial))))))))
    · skip
      replace h := cF g1 h
      exact Exists.intro [] (Exists.intro [] (Exists.intro (9223372036854775807:Int) (And.intro h (And.intro rfl (And.intro rfl (And.intro rfl (And.intro rfl (And.intro rfl trivial))))))))
  · skip
    clear h
    refine fun j1_9 h => ?_
    replace h : num_Mul_j1 p0 p1 (math_bits_Mul64 (num_size p0) (num_size p1)) j1_9 = r := h
    delta num_Mul_j1 at h
    refine Exists.intro none ?_
    refine Exists.intro none ?_
    refine And.intro (fun g2 => ?_) (fun g2 => ?_)
    · skip
      refine And.intro (fun g3 => ?_) (fun g3 => ?_)
      · skip
        replace h := cT (oR g2 g3) h
        refine Exists.intro none ?_
        first | subst h | rw [← h]
        exact (And.intro rfl (And.intro rfl trivial))
      · skip
        replace h := cF (oR g2 g3) h
        refine Exists.intro none ?_
        refine And.intro (fun g4 => ?_) (fun g4 => ?_)
        · skip
          replace h := cT g4 h
          refine Exists.intro none ?_
          first | subst h | rw [← h]
          exact (And.intro rfl (And.intro rfl trivial))
        · skip
          replace h := cF g4 h
          refine Exists.intro none ?_
          first | subst h | rw [← h]
          exact (And.intro rfl (And.intro rfl trivial))
    · skip
      replace h := cT (oL g2) h
      refine Exists.intro none ?_
      first | subst h | rw [← h]
      exact (And.intro rfl (And.intro rfl trivial))
theorem c_num_Mul (p0 : Int) (p1 : Int) : Contract Try.prog 86 [.int .i64 p0, .int .i64 p1] [] (.tup [.int .i64 (num_Mul p0 p1).1, .sb (num_Mul p0 p1).2]) [] := c_num_Mul' p0 p1 (num_Mul p0 p1) rfl

theorem c_num_Add' (p0 : Int) (p1 : Int) (r : (Int × Bool)) (h : num_Add p0 p1 = r) : Contract Try.prog 87 [.int .i64 p0, .int .i64 p1] [] (.tup [.int .i64 r.1, .sb r.2]) [] := by
  refine contract_of_vcs tab_ok orders_ok Try.func87 Try.call87 (by kernel_rfl) 0 rfl rfl _ rfl ?_
  delta num_Add at h
  refine Exists.intro none ?_
  refine Exists.intro none ?_
  refine Exists.intro none ?_
  refine Exists.intro (some (⟨Unit, fun _ => [(.tmp 6, .av (.int .i64 (w64 (p0 + p1)))), (.tmp 21, .av (.sb (((decide (p0 ≥ (0:Int))) == (decide (p1 ≥ (0:Int)))) && (!((decide ((w64 (p0 + p1)) ≥ (0:Int))) == (decide (p0 ≥ (0:Int))))))))], fun _ => True, fun _ => 0⟩, 1000000)) (And.intro ?_ (fun _ _ => ?_))
  · skip
    refine And.intro (fun g1 => ?_) (fun g1 => ?_)
    · skip
      exact Exists.intro [] (Exists.intro [] (Exists.intro () (And.intro trivial (And.intro rfl (And.intro rfl (And.intro (Eq.symm (aR g1 rfl)) trivial))))))
    · skip
      exact Exists.intro [] (Exists.intro [] (Exists.intro () (And.intro trivial (And.intro rfl (And.intro rfl (And.intro (Eq.symm (aL g1)) trivial))))))
  · skip
    refine And.intro (fun g2 => ?_) (fun g2 => ?_)
    · skip
      replace h := cT g2 h
      refine Exists.intro none ?_
      first | subst h | rw [← h]
      exact (And.intro rfl (And.intro rfl trivial))
    · skip
      replace h := cF g2 h
      refine Exists.intro none ?_
      first | subst h | rw [← h]
      exact (And.intro rfl (And.intro rfl trivial))
theorem c_num_Add (p0 : Int) (p1 : Int) : Contract Try.prog 87 [.int .i64 p0, .int .i64 p1] [] (.tup [.int .i64 (num_Add p0 p1).1, .sb (num_Add p0 p1).2]) [] := c_num_Add' p0 p1 (num_Add p0 p1) rfl

theorem c_exact_Squares (p0 : (List api_Item)) (r : (Int × Bool)) (h : exact_Squares p0 = some r) : Contract Try.prog 58 [.lst 2 false (List.map enc_api_Item p0)] [] (.tup [.int .i64 r.1, .sb r.2]) [] := by
  refine contract_of_vcs tab_ok orders_ok Try.func58 Try.call58 (by kernel_rfl) 0 rfl rfl _ rfl ?_
  delta exact_Squares at h
  refine Exists.intro none ?_
  refine Exists.intro none ?_
  refine Exists.intro none ?_
  refine Exists.intro [.int .i64 (p0.length : Int)] (And.intro (lenS enc_api_Item p0) ?_)
  replace h : exact_Squares_l2 p0 (0:Int) (0:Int) = some r := h
  delta exact_Squares_l2 at h
  obtain ⟨n1, h⟩ := loopS h
  refine Exists.intro ⟨(Int × Int) × Nat, fun q => [(.tmp 4, .av (.int .i64 q.1.1)), (.tmp 9, .av (.lst 2 false (List.map enc_api_Item p0))), (.tmp 10, .av (.int .i64 (p0.length : Int))), (.tmp 11, .av (.int .i64 q.1.2))], fun q => loopN (fun (s : (Int × Int)) => exact_Squares_l2s p0 s.1 s.2) q.2 q.1 = some r, fun q => q.2⟩ (And.intro (Exists.intro [] (Exists.intro [] (Exists.intro (((0:Int), (0:Int)), n1) (And.intro h (And.intro rfl (And.intro rfl (And.intro ff (And.intro rfl (And.intro rfl (And.intro rfl trivial)))))))))) ?_)
  clear h
  refine fun q h => ?_
  obtain ⟨⟨v2_4, v2_11⟩, n1⟩ := q
  obtain ⟨m1, x1, hm1, h, hl1, hr1⟩ := loopN_step h
  replace hm1 : n1 = m1 + 1 := hm1
  subst hm1
  replace h : exact_Squares_l2s p0 v2_4 v2_11 = some x1 := h
  delta exact_Squares_l2s at h
  refine Exists.intro none ?_
  refine And.intro (fun g1 => ?_) (fun g1 => ?_)
  · skip
    replace h := cT g1 h
    refine Exists.intro none ?_
    obtain ⟨x4_0, e4_0, h⟩ := bS h
    refine Exists.intro [.int .i64 x4_0.T, .int .i64 x4_0.V] (And.intro (idx_map enc_api_Item e4_0) ?_)
    refine Exists.intro none ?_
    refine Exists.intro (CK.plain _ _) (And.intro (Contract.wk (c_num_Mul x4_0.V x4_0.V) (And.intro rfl (And.intro rfl trivial))) (And.intro rfl ?_))
    refine Exists.intro none ?_
    refine And.intro (fun g2 => ?_) (fun g2 => ?_)
    · skip
      replace h := cT g2 h
      refine Exists.intro none ?_
      replace h := retS h hr1
      first | subst h | rw [← h]
      exact (And.intro rfl (And.intro rfl trivial))
    · skip
      replace h := cF g2 h
      refine Exists.intro none ?_
      refine Exists.intro (CK.plain _ _) (And.intro (Contract.wk (c_num_Add v2_4 (num_Mul x4_0.V x4_0.V).1) (And.intro rfl (And.intro rfl trivial))) (And.intro rfl ?_))
      refine Exists.intro none ?_
      refine And.intro (fun g3 => ?_) (fun g3 => ?_)
      · skip
        replace h := cT g3 h
        refine Exists.intro none ?_
        replace h := retS h hr1
        first | subst h | rw [← h]
        exact (And.intro rfl (And.intro rfl trivial))
      · skip
        replace h := cF g3 h
        refine Exists.intro none ?_
        exact Exists.intro [] (Exists.intro [] (Exists.intro (((num_Add v2_4 (num_Mul x4_0.V x4_0.V).1).1, (w64 (v2_11 + (1:Int)))), m1) (And.intro (hl1 ((num_Add v2_4 (num_Mul x4_0.V x4_0.V).1).1, (w64 (v2_11 + (1:Int)))) (Option.some.inj h).symm) (And.intro (Nat.lt_succ_self m1) (And.intro rfl (And.intro rfl (And.intro ff (And.intro rfl (And.intro rfl (And.intro rfl trivial))))))))))
  · skip
    replace h := cF g1 h
    replace h := popS h hr1
    refine Exists.intro none ?_
    replace h := Option.some.inj h
    first | subst h | rw [← h]
    exact (And.intro rfl (And.intro rfl trivial))

theorem c_exact_Count' (p0 : (List api_Item)) (r : Int) (h : exact_Count p0 = r) : Contract Try.prog 59 [.lst 2 false (List.map enc_api_Item p0)] [] (.int .i64 r) [] := by
  refine contract_of_vcs tab_ok orders_ok Try.func59 Try.call59 (by kernel_rfl) 0 rfl rfl _ rfl ?_
  delta exact_Count at h
  refine Exists.intro none ?_
  refine Exists.intro none ?_
  refine Exists.intro [.int .i64 (p0.length : Int)] (And.intro (lenS enc_api_Item p0) ?_)
  first | subst h | rw [← h]
  exact (And.intro rfl trivial)
theorem c_exact_Count (p0 : (List api_Item)) : Contract Try.prog 59 [.lst 2 false (List.map enc_api_Item p0)] [] (.int .i64 (exact_Count p0)) [] := c_exact_Count' p0 (exact_Count p0) rfl

theorem c_law08_awake (r : Bool) (h : law08_awake = some r) : Contract Try.prog 33 [] [] (.sb r) [] := by
  refine contract_of_vcs tab_ok orders_ok Try.func33 Try.call33 (by kernel_rfl) 0 rfl rfl _ rfl ?_
  delta law08_awake at h
  refine Exists.intro none ?_
  refine Exists.intro none ?_
  refine Exists.intro none ?_
  obtain ⟨y2_1, e2_1, h⟩ := bS h
  refine Exists.intro (CK.plain _ _) (And.intro (Contract.wk (c_exact_Squares [(api_Item.mk (0:Int) (2:Int)), (api_Item.mk (1:Int) (4:Int)), (api_Item.mk (1:Int) (9:Int))] y2_1 e2_1) (And.intro ff (And.intro (by first | rfl | (simp only [encZ, List.map_append, List.map_cons, List.map_nil, List.map_take, List.map_drop, List.map_set, List.map_replicate]; done) | (simp only [encZ, List.map_append, List.map_cons, List.map_nil, List.map_take, List.map_drop, List.map_set, List.map_replicate]; rfl) | (simp only [encZ, List.map_append, List.map_cons, List.map_nil, List.map_take, List.map_drop, List.map_set, List.map_replicate, eL, enc_api_Ranks, enc_api_Recent, enc_api_Answer]; done) | (simp only [encZ, List.map_append, List.map_cons, List.map_nil, List.map_take, List.map_drop, List.map_set, List.map_replicate, eL, enc_api_Ranks, enc_api_Recent, enc_api_Answer]; rfl)) trivial))) (And.intro rfl ?_))
  refine Exists.intro none ?_
  refine Exists.intro none ?_
  refine And.intro (fun g1 => ?_) (fun g1 => ?_)
  · skip
    refine And.intro (fun g2 => ?_) (fun g2 => ?_)
    · skip
      refine Exists.intro (CK.plain _ _) (And.intro (Contract.wk (c_exact_Count [(api_Item.mk (0:Int) (2:Int)), (api_Item.mk (1:Int) (4:Int)), (api_Item.mk (1:Int) (9:Int))]) (And.intro ff (And.intro (by first | rfl | (simp only [encZ, List.map_append, List.map_cons, List.map_nil, List.map_take, List.map_drop, List.map_set, List.map_replicate]; done) | (simp only [encZ, List.map_append, List.map_cons, List.map_nil, List.map_take, List.map_drop, List.map_set, List.map_replicate]; rfl) | (simp only [encZ, List.map_append, List.map_cons, List.map_nil, List.map_take, List.map_drop, List.map_set, List.map_replicate, eL, enc_api_Ranks, enc_api_Recent, enc_api_Answer]; done) | (simp only [encZ, List.map_append, List.map_cons, List.map_nil, List.map_take, List.map_drop, List.map_set, List.map_replicate, eL, enc_api_Ranks, enc_api_Recent, enc_api_Answer]; rfl)) trivial))) (And.intro rfl ?_))
      replace h := Option.some.inj h
      first | subst h | rw [← h]
      exact (And.intro (Eq.symm (aR (aR g1 g2) rfl)) trivial)
    · skip
      replace h := Option.some.inj h
      first | subst h | rw [← h]
      exact (And.intro (Eq.symm (aL (aR g1 g2))) trivial)
  · skip
    replace h := Option.some.inj h
    first | subst h | rw [← h]
    exact (And.intro (Eq.symm (aL (aL g1))) trivial)

theorem c_wide_Product' (p0 : Int) (p1 : Int) (r : api_Wide) (h : wide_Product p0 p1 = r) : Contract Try.prog 61 [.int .u64 p0, .int .u64 p1] [] (.agg [.int .u64 r.Hi, .int .u64 r.Lo]) [] := by
  refine contract_of_vcs tab_ok orders_ok Try.func61 Try.call61 (by kernel_rfl) 0 rfl rfl _ rfl ?_
  delta wide_Product at h
  refine Exists.intro none ?_
  refine Exists.intro none ?_
  refine Exists.intro (CK.plain _ _) (And.intro (Contract.wk (c_math_bits_Mul64 p0 p1) (And.intro rfl (And.intro rfl trivial))) (And.intro rfl ?_))
  refine Exists.intro none ?_
  first | subst h | rw [← h]
  exact (And.intro rfl (And.intro rfl trivial))
theorem c_wide_Product (p0 : Int) (p1 : Int) : Contract Try.prog 61 [.int .u64 p0, .int .u64 p1] [] (.agg [.int .u64 (wide_Product p0 p1).Hi, .int .u64 (wide_Product p0 p1).Lo]) [] := c_wide_Product' p0 p1 (wide_Product p0 p1) rfl

theorem c_wide_Of' (p0 : Int) (r : api_Wide) (h : wide_Of p0 = r) : Contract Try.prog 62 [.int .u64 p0] [] (.agg [.int .u64 r.Hi, .int .u64 r.Lo]) [] := by
  refine contract_of_vcs tab_ok orders_ok Try.func62 Try.call62 (by kernel_rfl) 0 rfl rfl _ rfl ?_
  delta wide_Of at h
  refine Exists.intro none ?_
  refine Exists.intro none ?_
  first | subst h | rw [← h]
  exact (And.intro rfl (And.intro rfl trivial))
theorem c_wide_Of (p0 : Int) : Contract Try.prog 62 [.int .u64 p0] [] (.agg [.int .u64 (wide_Of p0).Hi, .int .u64 (wide_Of p0).Lo]) [] := c_wide_Of' p0 (wide_Of p0) rfl

theorem c_wide_zero' (p0 : api_Wide) (r : Bool) (h : wide_zero p0 = r) : Contract Try.prog 88 [.agg [.int .u64 p0.Hi, .int .u64 p0.Lo]] [] (.sb r) [] := by
  refine contract_of_vcs tab_ok orders_ok Try.func88 Try.call88 (by kernel_rfl) 0 rfl rfl _ rfl ?_
  delta wide_zero at h
  refine Exists.intro none ?_
  refine Exists.intro none ?_
  refine Exists.intro none ?_
  refine And.intro (fun g1 => ?_) (fun g1 => ?_)
  · skip
    first | subst h | rw [← h]
    exact (And.intro (Eq.symm (aR g1 rfl)) trivial)
  · skip
    first | subst h | rw [← h]
    exact (And.intro (Eq.symm (aL g1)) trivial)
theorem c_wide_zero (p0 : api_Wide) : Contract Try.prog 88 [.agg [.int .u64 p0.Hi, .int .u64 p0.Lo]] [] (.sb (wide_zero p0)) [] := c_wide_zero' p0 (wide_zero p0) rfl

theorem c_wide_Bits (p0 : api_Wide) (r : Int) (h : wide_Bits p0 = some r) : Contract Try.prog 89 [.agg [.int .u64 p0.Hi, .int .u64 p0.Lo]] [] (.int .i64 r) [] := by
  refine contract_of_vcs tab_ok orders_ok Try.func89 Try.call89 (by kernel_rfl) 0 rfl rfl _ rfl ?_
  delta wide_Bits at h
  refine Exists.intro none ?_
  refine Exists.intro none ?_
  refine And.intro (fun g1 => ?_) (fun g1 => ?_)
  · skip
    replace h := cT g1 h
    refine Exists.intro none ?_
    obtain ⟨y2_2, e2_2, h⟩ := bS h
    refine Exists.intro (CK.plain _ _) (And.intro (Contract.wk (c_math_bits_Len64 p0.Hi y2_2 e2_2) (And.intro rfl trivial)) (And.intro rfl ?_))
    replace h := Option.some.inj h
    first | subst h | rw [← h]
    exact (And.intro rfl trivial)
  · skip
    replace h := cF g1 h
    refine Exists.intro none ?_
    obtain ⟨y3_2, e3_2, h⟩ := bS h
    refine Exists.intro (CK.plain _ _) (And.intro (Contract.wk (c_math_bits_Len64 p0.Lo y3_2 e3_2) (And.intro rfl trivial)) (And.intro rfl ?_))
    replace h := Option.some.inj h
    first | subst h | rw [← h]
    exact (And.intro rfl trivial)

theorem c_wide_bit (p0 : api_Wide) (p1 : Int) (r : Int) (h : wide_bit p0 p1 = some r) : Contract Try.prog 90 [.agg [.int .u64 p0.Hi, .int .u64 p0.Lo], .int .i64 p1] [] (.int .u64 r) [] := by
  refine contract_of_vcs tab_ok orders_ok Try.func90 Try.call90 (by kernel_rfl) 0 rfl rfl _ rfl ?_
  delta wide_bit at h
  refine Exists.intro none ?_
  refine Exists.intro none ?_
  refine And.intro (fun g1 => ?_) (fun g1 => ?_)
  · skip
    replace h := cT g1 h
    refine Exists.intro none ?_
    obtain ⟨k2_5, h⟩ := ckS h
    refine And.intro (of_decide_eq_true k2_5) ?_
    replace h := Option.some.inj h
    first | subst h | rw [← h]
    exact (And.intro rfl trivial)
  · skip
    replace h := cF g1 h
    refine Exists.intro none ?_
    obtain ⟨k3_4, h⟩ := ckS h
    refine And.intro (of_decide_eq_true k3_4) ?_
    replace h := Option.some.inj h
    first | subst h | rw [← h]
    exact (And.intro rfl trivial)

theorem c_wide_Compare' (p0 : api_Wide) (p1 : api_Wide) (r : Int) (h : wide_Compare p0 p1 = r) : Contract Try.prog 91 [.agg [.int .u64 p0.Hi, .int .u64 p0.Lo], .agg [.int .u64 p1.Hi, .int .u64 p1.Lo]] [] (.int .i64 r) [] := by
  refine contract_of_vcs tab_ok orders_ok Try.func91 Try.call91 (by kernel_rfl) 0 rfl rfl _ rfl ?_
  delta wide_Compare at h
  refine Exists.intro none ?_
  refine Exists.intro none ?_
  refine Exists.intro (some (⟨Unit, fun _ => [(.tmp 2, .av (.ptr 0 0)), (.tmp 3, .av (.ptr 1 0)), (.tmp 5, .av (.sb ((decide (p0.Hi < p1.Hi)) || ((p0.Hi == p1.Hi) && (decide (p0.Lo < p1.Lo)))))), (.box 0, .box [.int .u64 p0.Hi, .int .u64 p0.Lo]), (.box 1, .box [.int .u64 p1.Hi, .int .u64 p1.Lo])], fun _ => True, fun _ => 0⟩, 1000000)) (And.intro ?_ (fun _ _ => ?_))
  · skip
    refine And.intro (fun g1 => ?_) (fun g1 => ?_)
    · skip
      refine And.intro (fun g2 => ?_) (fun g2 => ?_)
      · skip
        exact Exists.intro [] (Exists.intro [] (Exists.intro () (And.intro trivial (And.intro rfl (And.intro (Eq.symm (oR g1 (aR g2 rfl))) (And.intro rfl (And.intro rfl (And.intro rfl (And.intro rfl trivial)))))))))
      · skip
        exact Exists.intro [] (Exists.intro [] (Exists.intro () (And.intro trivial (And.intro rfl (And.intro (Eq.symm (oR g1 (aL g2))) (And.intro rfl (And.intro rfl (And.intro rfl (And.intro rfl trivial)))))))))
    · skip
      exact Exists.intro [] (Exists.intro [] (Exists.intro () (And.intro trivial (And.intro rfl (And.intro (Eq.symm (oL g1)) (And.intro rfl (And.intro rfl (And.intro rfl (And.intro rfl trivial)))))))))
  · skip
    refine And.intro (fun g3 => ?_) (fun g3 => ?_)
    · skip
      replace h := cT g3 h
      refine Exists.intro none ?_
      first | subst h | rw [← h]
      exact (And.intro rfl trivial)
    · skip
      replace h := cF g3 h
      refine Exists.intro none ?_
      refine And.intro (fun g4 => ?_) (fun g4 => ?_)
      · skip
        replace h := cT g4 h
        refine Exists.intro none ?_
        first | subst h | rw [← h]
        exact (And.intro rfl trivial)
      · skip
        replace h := cF g4 h
        refine Exists.intro none ?_
        first | subst h | rw [← h]
        exact (And.intro rfl trivial)
theorem c_wide_Compare (p0 : api_Wide) (p1 : api_Wide) : Contract Try.prog 91 [.agg [.int .u64 p0.Hi, .int .u64 p0.Lo], .agg [.int .u64 p1.Hi, .int .u64 p1.Lo]] [] (.int .i64 (wide_Compare p0 p1)) [] := c_wide_Compare' p0 p1 (wide_Compare p0 p1) rfl

theorem c_math_bits_Sub64 (p0 p1 p2 : Int) (r : (Int × Int)) (h : math_bits_Sub64 p0 p1 p2 = some r) : Contract Try.prog 92 [.int .u64 p0, .int .u64 p1, .int .u64 p2] [] (.tup [.int .u64 r.1, .int .u64 r.2]) [] :=
  ext_Sub64 Try.func92 (by kernel_rfl) (by kernel_rfl) (by kernel_rfl) (by kernel_rfl) p0 p1 p2 r h

theorem c_wide_Div (p0 : api_Wide) (p1 : api_Wide) (r : (api_Wide × api_Wide × Bool)) (h : wide_Div p0 p1 = some r) : Contract Try.prog 60 [.agg [.int .u64 p0.Hi, .int .u64 p0.Lo], .agg [.int .u64 p1.Hi, .int .u64 p1.Lo]] [] (.tup [.agg [.int .u64 r.1.Hi, .int .u64 r.1.Lo], .agg [.int .u64 r.2.1.Hi, .int .u64 r.2.1.Lo], .sb r.2.2]) [] := by
  refine contract_of_vcs tab_ok orders_ok Try.func60 Try.call60 (by kernel_rfl) 0 rfl rfl _ rfl ?_
  delta wide_Div at h
  refine Exists.intro none ?_
  refine Exists.intro none ?_
  refine Exists.intro (CK.plain _ _) (And.intro (Contract.wk (c_wide_zero p1) (And.intro rfl (And.intro rfl trivial))) (And.intro rfl ?_))
  refine And.intro (fun g1 => ?_) (fun g1 => ?_)
  · skip
    replace h := cT g1 h
    refine Exists.intro none ?_
    replace h := Option.some.inj h
    first | subst h | rw [← h]
    exact (And.intro rfl (And.intro rfl (And.intro rfl (And.intro rfl (And.intro rfl trivial)))))
  · skip
    replace h := cF g1 h
    refine Exists.intro none ?_
    refine Exists.intro none ?_
    obtain ⟨y4_1, e4_1, h⟩ := bS h
    refine Exists.intro (CK.plain _ _) (And.intro (Contract.wk (c_wide_Bits p0 y4_1 e4_1) (And.intro rfl (And.intro rfl trivial))) (And.intro rfl ?_))
    replace h : wide_Div_l3 p0 p1 (w64 (y4_1 - (1:Int))) (0:Int) (0:Int) (0:Int) (0:Int) = some r := h
    delta wide_Div_l3 at h
    obtain ⟨n1, h⟩ := loopS h
    refine Exists.intro ⟨(Int × Int × Int × Int × Int) × Nat, fun q => [(.tmp 2, .av (.ptr 0 0)), (.tmp 3, .av (.ptr 1 0)), (.tmp 4, .av (.ptr 2 0)), (.tmp 5, .av (.ptr 3 0)), (.tmp 7, .av (.ptr 512 0)), (.tmp 8, .av (.ptr 513 0)), (.tmp 9, .av (.int .i64 q.1.1)), (.box 0, .box [.int .u64 p0.Hi, .int .u64 p0.Lo]), (.box 1, .box [.int .u64 p1.Hi, .int .u64 p1.Lo]), (.box 2, .box [.int .u64 (0:Int), .int .u64 (0:Int)]), (.box 3, .box [.int .u64 (0:Int), .int .u64 (0:Int)]), (.box 512, .box [.int .u64 q.1.2.1, .int .u64 q.1.2.2.1]), (.box 513, .box [.int .u64 q.1.2.2.2.1, .int .u64 q.1.2.2.2.2])], fun q => loopN (fun (s : (Int × Int × Int × Int × Int)) => wide_Div_l3s p0 p1 s.1 s.2.1 s.2.2.1 s.2.2.2.1 s.2.2.2.2) q.2 q.1 = some r, fun q => q.2⟩ (And.intro (Exists.intro [] (Exists.intro [] (Exists.intro (((w64 (y4_1 - (1:Int))), (0:Int), (0:Int), (0:Int), (0:Int)), n1) (And.intro h (And.intro rfl (And.intro rfl (And.intro rfl (And.intro rfl (And.intro rfl (And.intro rfl (And.intro rfl (And.intro rfl (And.intro rfl (And.intro rfl (And.intro rfl (And.intro rfl (And.intro rfl (And.intro rfl trivial)))))))))))))))))) ?_)
    clear h
    refine fun q h => ?_
    obtain ⟨⟨v3_9, v3_b3x0_0, v3_b3x0_1, v3_b3x1_0, v3_b3x1_1⟩, n1⟩ := q
    obtain ⟨m1, x1, hm1, h, hl1, hr1⟩ := loopN_step h
    replace hm1 : n1 = m1 + 1 := hm1
    subst hm1
    replace h : wide_Div_l3s p0 p1 v3_9 v3_b3x0_0 v3_b3x0_1 v3_b3x1_0 v3_b3x1_1 = some x1 := h
    delta wide_Div_l3s at h
    refine Exists.intro none ?_
    refine And.intro (fun g2 => ?_) (fun g2 => ?_)
    · skip
      replace h := cT g2 h
      refine Exists.intro none ?_
      refine Exists.intro none ?_
      refine And.intro (by decide) ?_
      refine Exists.intro none ?_
      obtain ⟨y8_12, e8_12, h⟩ := bS h
      refine And.intro (by decide) ?_
      refine And.intro (by decide) ?_
      refine And.intro (by decide) ?_
      refine Exists.intro (CK.plain _ _) (And.intro (Contract.wk (c_wide_bit p0 v3_9 y8_12 e8_12) (And.intro rfl (And.intro rfl (And.intro rfl trivial)))) (And.intro rfl ?_))
      refine Exists.intro none ?_
      refine And.intro (by decide) ?_
      refine And.intro (by decide) ?_
      refine And.intro (by decide) ?_
      refine Exists.intro none ?_
      refine Exists.intro (some (⟨Unit, fun _ => [(.tmp 2, .av (.ptr 0 0)), (.tmp 3, .av (.ptr 1 0)), (.tmp 4, .av (.ptr 2 0)), (.tmp 5, .av (.ptr 3 0)), (.tmp 7, .av (.ptr 512 0)), (.tmp 8, .av (.ptr 513 0)), (.tmp 9, .av (.int .i64 v3_9)), (.tmp 62, .av (.sb (((ishr .u64 v3_b3x1_0 (63:Int)) == (1:Int)) || (decide ((wide_Compare (api_Wide.mk (ior .u64 (ishl .u64 v3_b3x1_0 (1:Int)) (ishr .u64 v3_b3x1_1 (63:Int))) (ior .u64 (ishl .u64 v3_b3x1_1 (1:Int)) y8_12)) p1) ≥ (0:Int)))))), (.box 0, .box [.int .u64 p0.Hi, .int .u64 p0.Lo]), (.box 1, .box [.int .u64 p1.Hi, .int .u64 p1.Lo]), (.box 2, .box [.int .u64 (0:Int), .int .u64 (0:Int)]), (.box 3, .box [.int .u64 (0:Int), .int .u64 (0:Int)]), (.box 512, .box [.int .u64 (ior .u64 (ishl .u64 v3_b3x0_0 (1:Int)) (ishr .u64 v3_b3x0_1 (63:Int))), .int .u64 (ishl .u64 v3_b3x0_1 (1:Int))]), (.box 513, .box [.int .u64 (ior .u64 (ishl .u64 v3_b3x1_0 (1:Int)) (ishr .u64 v3_b3x1_1 (63:Int))), .int .u64 (ior .u64 (ishl .u64 v3_b3x1_1 (1:Int)) y8_12)])], fun _ => True, fun _ => 0⟩, 1000000)) (And.intro ?_ (fun _ _ => ?_))
      · skip
        refine And.intro (fun g3 => ?_) (fun g3 => ?_)
        · skip
          refine Exists.intro (CK.plain _ _) (And.intro (Contract.wk (c_wide_Compare (api_Wide.mk (ior .u64 (ishl .u64 v3_b3x1_0 (1:Int)) (ishr .u64 v3_b3x1_1 (63:Int))) (ior .u64 (ishl .u64 v3_b3x1_1 (1:Int)) y8_12)) p1) (And.intro rfl (And.intro rfl (And.intro rfl (And.intro rfl trivial))))) (And.intro rfl ?_))
          exact Exists.intro [] (Exists.intro [] (Exists.intro () (And.intro trivial (And.intro rfl (And.intro rfl (And.intro (Eq.symm (oR g3 rfl)) (And.intro rfl (And.intro rfl (And.intro rfl (And.intro rfl (And.intro rfl (And.intro rfl (And.intro rfl (And.intro rfl (And.intro rfl (And.intro rfl (And.intro rfl (And.intro rfl trivial))))))))))))))))))
        · skip
          exact Exists.intro [] (Exists.intro [] (Exists.intro () (And.intro trivial (And.intro rfl (And.intro rfl (And.intro (Eq.symm (oL g3)) (And.intro rfl (And.intro rfl (And.intro rfl (And.intro rfl (And.intro rfl (And.intro rfl (And.intro rfl (And.intro rfl (And.intro rfl (And.intro rfl (And.intro rfl (And.intro rfl trivial))))))))))))))))))
      · skip
        refine Exists.intro none ?_
        refine And.intro (fun g4 => ?_) (fun g4 => ?_)
        · skip
          replace h := cT g4 h
          refine Exists.intro none ?_
          obtain ⟨y11_4, e11_4, h⟩ := bS h
          refine Exists.intro (CK.plain _ _) (And.intro (Contract.wk (c_math_bits_Sub64 (ior .u64 (ishl .u64 v3_b3x1_1 (1:Int)) y8_12) p1.Lo (0:Int) y11_4 e11_4) (And.intro rfl (And.intro rfl (And.intro rfl trivial)))) (And.intro rfl ?_))
          refine Exists.intro none ?_
          obtain ⟨y12_5, e12_5, h⟩ := bS h
          refine Exists.intro (CK.plain _ _) (And.intro (Contract.wk (c_math_bits_Sub64 (ior .u64 (ishl .u64 v3_b3x1_0 (1:Int)) (ishr .u64 v3_b3x1_1 (63:Int))) p1.Hi y11_4.2 y12_5 e12_5) (And.intro rfl (And.intro rfl (And.intro rfl trivial)))) (And.intro rfl ?_))
          refine Exists.intro none ?_
          refine Exists.intro none ?_
          refine Exists.intro none ?_
          exact Exists.intro [] (Exists.intro [] (Exists.intro (((w64 (v3_9 - (1:Int))), (ior .u64 (ishl .u64 v3_b3x0_0 (1:Int)) (ishr .u64 v3_b3x0_1 (63:Int))), (ior .u64 (ishl .u64 v3_b3x0_1 (1:Int)) (1:Int)), y12_5.1, y11_4.1), m1) (And.intro (hl1 ((w64 (v3_9 - (1:Int))), (ior .u64 (ishl .u64 v3_b3x0_0 (1:Int)) (ishr .u64 v3_b3x0_1 (63:Int))), (ior .u64 (ishl .u64 v3_b3x0_1 (1:Int)) (1:Int)), y12_5.1, y11_4.1) (Option.some.inj h).symm) (And.intro (Nat.lt_succ_self m1) (And.intro rfl (And.intro rfl (And.intro rfl (And.intro rfl (And.intro rfl (And.intro rfl (And.intro rfl (And.intro rfl (And.intro rfl (And.intro rfl (And.intro rfl (And.intro rfl (And.intro rfl (And.intro rfl trivial))))))))))))))))))
        · skip
          replace h := cF g4 h
          refine Exists.intro none ?_
          exact Exists.intro [] (Exists.intro [] (Exists.intro (((w64 (v3_9 - (1:Int))), (ior .u64 (ishl .u64 v3_b3x0_0 (1:Int)) (ishr .u64 v3_b3x0_1 (63:Int))), (ishl .u64 v3_b3x0_1 (1:Int)), (ior .u64 (ishl .u64 v3_b3x1_0 (1:Int)) (ishr .u64 v3_b3x1_1 (63:Int))), (ior .u64 (ishl .u64 v3_b3x1_1 (1:Int)) y8_12)), m1) (And.intro (hl1 ((w64 (v3_9 - (1:Int))), (ior .u64 (ishl .u64 v3_b3x0_0 (1:Int)) (ishr .u64 v3_b3x0_1 (63:Int))), (ishl .u64 v3_b3x0_1 (1:Int)), (ior .u64 (ishl .u64 v3_b3x1_0 (1:Int)) (ishr .u64 v3_b3x1_1 (63:Int))), (ior .u64 (ishl .u64 v3_b3x1_1 (1:Int)) y8_12)) (Option.some.inj h).symm) (And.intro (Nat.lt_succ_self m1) (And.intro rfl (And.intro rfl (And.intro rfl (And.intro rfl (And.intro rfl (And.intro rfl (And.intro rfl (And.intro rfl (And.intro rfl (And.intro rfl (And.intro rfl (And.intro rfl (And.intro rfl (And.intro rfl trivial))))))))))))))))))
    · skip
      replace h := cF g2 h
      replace h := popS h hr1
      refine Exists.intro none ?_
      replace h := Option.some.inj h
      first | subst h | rw [← h]
      exact (And.intro rfl (And.intro rfl (And.intro rfl (And.intro rfl (And.intro rfl trivial)))))

theorem c_exact_Quantile (p0 : (List api_Item)) (p1 : Int) (p2 : Int) (r : (Int × Bool)) (h : exact_Quantile p0 p1 p2 = some r) : Contract Try.prog 34 [.lst 2 false (List.map enc_api_Item p0), .int .i64 p1, .int .i64 p2] [] (.tup [.int .i64 r.1, .sb r.2]) [] := by
  refine contract_of_vcs tab_ok orders_ok Try.func34 Try.call34 (by kernel_rfl) 0 rfl rfl _ rfl ?_
  delta exact_Quantile at h
  refine Exists.intro none ?_
  refine Exists.intro none ?_
  refine Exists.intro none ?_
  refine Exists.intro [.int .i64 (p0.length : Int)] (And.intro (lenS enc_api_Item p0) ?_)
  refine And.intro (fun g1 => ?_) (fun g1 => ?_)
  · skip
    refine And.intro (fun g2 => ?_) (fun g2 => ?_)
    · skip
      refine And.intro (fun g3 => ?_) (fun g3 => ?_)
      · skip
        refine And.intro (fun g4 => ?_) (fun g4 => ?_)
        · skip
          replace h := cT (oR (oR (oR g1 g2) g3) g4) h
          refine Exists.intro none ?_
          replace h := Option.some.inj h
          first | subst h | rw [← h]
          exact (And.intro rfl (And.intro rfl trivial))
        · skip
          replace h := cF (oR (oR (oR g1 g2) g3) g4) h
          refine Exists.intro none ?_
          obtain ⟨y3_9, e3_9, h⟩ := bS h
          refine Exists.intro [.int .i64 (p0.length : Int)] (And.intro (lenS enc_api_Item p0) ?_)
          refine Exists.intro (CK.plain _ _) (And.intro (Contract.wk (c_wide_Product (wu64 p1) (wu64 (p0.length : Int))) (And.intro rfl (And.intro rfl trivial))) (And.intro rfl ?_))
          refine Exists.intro (CK.plain _ _) (And.intro (Contract.wk (c_wide_Of (wu64 p2)) (And.intro rfl trivial)) (And.intro rfl ?_))
          refine Exists.intro (CK.plain _ _) (And.intro (Contract.wk (c_wide_Div (wide_Product (wu64 p1) (wu64 (p0.length : Int))) (wide_Of (wu64 p2)) y3_9 e3_9) (And.intro rfl (And.intro rfl (And.intro rfl (And.intro rfl trivial))))) (And.intro rfl ?_))
          refine Exists.intro none ?_
          refine Exists.intro (some (⟨Int, fun j2_b3x14_1 => [(.tmp 0, .av (.lst 2 false (List.map enc_api_Item p0))), (.tmp 8, .av (.ptr 526 0)), (.box 526, .box [.int .u64 y3_9.1.Hi, .int .u64 j2_b3x14_1])], fun j2_b3x14_1 => exact_Quantile_j2 p0 j2_b3x14_1 = some r, fun _ => 0⟩, 1000000)) (And.intro ?_ ?_)
          · skip
            refine And.intro (fun g5 => ?_) (fun g5 => ?_)
            · skip
              replace h := cT g5 h
              refine Exists.intro none ?_
              exact Exists.intro [] (Exists.intro [] (Exists.intro (wu64 (y3_9.1.Lo + (1:Int))) (And.intro h (And.intro rfl (And.intro ff (And.intro rfl (And.intro rfl (And.intro rfl trivial))))))))
            · skip
              replace h := cF g5 h
              exact Exists.intro [] (Exists.intro [] (Exists.intro y3_9.1.Lo (And.intro h (And.intro rfl (And.intro ff (And.intro rfl (And.intro rfl (And.intro rfl trivial))))))))
          · skip
            clear h
            refine fun j2_b3x14_1 h => ?_
            replace h : exact_Quantile_j2 p0 j2_b3x14_1 = some r := h
            delta exact_Quantile_j2 at h
            refine Exists.intro none ?_
            refine Exists.intro none ?_
            refine Exists.intro [.int .i64 (p0.length : Int)] (And.intro (lenS enc_api_Item p0) ?_)
            replace h : exact_Quantile_l4 p0 j2_b3x14_1 ([] : List Int) (0:Int) = some r := h
            delta exact_Quantile_l4 at h
            obtain ⟨n1, h⟩ := loopS h
            refine Exists.intro ⟨((List Int) × Int) × Nat, fun q => [(.tmp 8, .av (.ptr 526 0)), (.tmp 11, .av (.own 1000511)), (.tmp 51, .av (.lst 2 false (List.map enc_api_Item p0))), (.tmp 52, .av (.int .i64 (p0.length : Int))), (.tmp 53, .av (.int .i64 q.1.2)), (.box 526, .box [.int .u64 y3_9.1.Hi, .int .u64 j2_b3x14_1]), (.tok 1000511, .tok 2 1 (List.map (eI .i64) q.1.1))], fun q => loopN (fun (s : ((List Int) × Int)) => exact_Quantile_l4s p0 j2_b3x14_1 s.1 s.2) q.2 q.1 = some r, fun q => q.2⟩ (And.intro (Exists.intro [(1000511, none)] (Exists.intro [] (Exists.intro ((([] : List Int), (0:Int)), n1) (And.intro h (And.intro rfl (And.intro ff (And.intro rfl (And.intro rfl (And.intro rfl (And.intro rfl (And.intro rfl (And.intro rfl trivial)))))))))))) ?_)
            clear h
            refine fun q h => ?_
            obtain ⟨⟨v4_11, v4_53⟩, n1⟩ := q
            obtain ⟨m1, x1, hm1, h, hl1, hr1⟩ := loopN_step h
            replace hm1 : n1 = m1 + 1 := hm1
            subst hm1
            replace h : exact_Quantile_l4s p0 j2_b3x14_1 v4_11 v4_53 = some x1 := h
            delta exact_Quantile_l4s at h
            refine Exists.intro none ?_
            refine And.intro (fun g6 => ?_) (fun g6 => ?_)
            · skip
              replace h := cT g6 h
              refine Exists.intro none ?_
              obtain ⟨x9_0, e9_0, h⟩ := bS h
              refine Exists.intro [.int .i64 x9_0.T, .int .i64 x9_0.V] (And.intro (idx_map enc_api_Item e9_0) ?_)
              refine Exists.intro none ?_
              obtain ⟨k10_4, h⟩ := ckS h
              refine And.intro (by have hh := (of_decide_eq_true k10_4); (try simp only [encZ, fixRows_length, List.length_map, List.length_append, List.length_take, List.length_drop, List.length_set, List.length_replicate, List.length_cons, List.length_nil] at hh); (try simp only [encZ, fixRows_length, List.length_map, List.length_append, List.length_take, List.length_drop, List.length_set, List.length_replicate, List.length_cons, List.length_nil]); (try simp only [w64, wu64] at hh); (try simp only [w64, wu64]); omega) ?_
              refine Exists.intro none ?_
              exact Exists.intro [(1000511, some 1001028)] (Exists.intro [] (Exists.intro (((v4_11 ++ [x9_0.V]), (w64 (v4_53 + (1:Int)))), m1) (And.intro (hl1 ((v4_11 ++ [x9_0.V]), (w64 (v4_53 + (1:Int)))) (Option.some.inj h).symm) (And.intro (Nat.lt_succ_self m1) (And.intro rfl (And.intro ff (And.intro rfl (And.intro rfl (And.intro rfl (And.intro rfl (And.intro rfl (And.intro (by first | rfl | (simp only [encZ, List.map_append, List.map_cons, List.map_nil, List.map_take, List.map_drop, List.map_set, List.map_replicate]; done) | (simp only [encZ, List.map_append, List.map_cons, List.map_nil, List.map_take, List.map_drop, List.map_set, List.map_replicate]; rfl) | (simp only [encZ, List.map_append, List.map_cons, List.map_nil, List.map_take, List.map_drop, List.map_set, List.map_replicate, eL, enc_api_Ranks, enc_api_Recent, enc_api_Answer]; done) | (simp only [encZ, List.map_append, List.map_cons, List.map_nil, List.map_take, List.map_drop, List.map_set, List.map_replicate, eL, enc_api_Ranks, enc_api_Recent, enc_api_Answer]; rfl)) trivial))))))))))))
            · skip
              replace h := cF g6 h
              replace h := popS h hr1
              refine Exists.intro none ?_
              obtain ⟨k12_1, h⟩ := ckS h
              refine Exists.intro (CK.sorts 1000511 2 v4_11) (And.intro sorts_int (And.intro (And.intro rfl (And.intro rfl (of_decide_eq_true k12_1))) ?_))
              refine Exists.intro none ?_
              obtain ⟨x13_6, e13_6, h⟩ := bS h
              obtain ⟨x13_7, e13_7, h⟩ := bS h
              refine And.intro (idx_lt (eI .i64) e13_6) ?_
              refine Exists.intro [.int .i64 x13_7] (And.intro (idx_elt (eI .i64) e13_7) ?_)
              replace h := Option.some.inj h
              first | subst h | rw [← h]
              exact (And.intro rfl (And.intro rfl trivial))
      · skip
        replace h := cT (oL (oR (oR g1 g2) g3)) h
        refine Exists.intro none ?_
        replace h := Option.some.inj h
        first | subst h | rw [← h]
        exact (And.intro rfl (And.intro rfl trivial))
    · skip
      replace h := cT (oL (oL (oR g1 g2))) h
      refine Exists.intro none ?_
      replace h := Option.some.inj h
      first | subst h | rw [← h]
      exact (And.intro rfl (And.intro rfl trivial))
  · skip
    replace h := cT (oL (oL (oL g1))) h
    refine Exists.intro none ?_
    replace h := Option.some.inj h
    first | subst h | rw [← h]
    exact (And.intro rfl (And.intro rfl trivial))

theorem c_ref08_Asks' (p0 : Int) (p1 : Int) (r : Bool) (h : ref08_Asks p0 p1 = r) : Contract Try.prog 63 [.int .i64 p0, .int .i64 p1] [] (.sb r) [] := by
  refine contract_of_vcs tab_ok orders_ok Try.func63 Try.call63 (by kernel_rfl) 0 rfl rfl _ rfl ?_
  delta ref08_Asks at h
  refine Exists.intro none ?_
  refine Exists.intro none ?_
  refine Exists.intro none ?_
  refine And.intro (fun g1 => ?_) (fun g1 => ?_)
  · skip
    refine And.intro (fun g2 => ?_) (fun g2 => ?_)
    · skip
      first | subst h | rw [← h]
      exact (And.intro (Eq.symm (aR (aR g1 g2) rfl)) trivial)
    · skip
      first | subst h | rw [← h]
      exact (And.intro (Eq.symm (aL (aR g1 g2))) trivial)
  · skip
    first | subst h | rw [← h]
    exact (And.intro (Eq.symm (aL (aL g1))) trivial)
theorem c_ref08_Asks (p0 : Int) (p1 : Int) : Contract Try.prog 63 [.int .i64 p0, .int .i64 p1] [] (.sb (ref08_Asks p0 p1)) [] := c_ref08_Asks' p0 p1 (ref08_Asks p0 p1) rfl

theorem c_ref02_Product' (p0 : Int) (p1 : Int) (r : api_Wide) (h : ref02_Product p0 p1 = r) : Contract Try.prog 95 [.int .u64 p0, .int .u64 p1] [] (.agg [.int .u64 r.Hi, .int .u64 r.Lo]) [] := by
  refine contract_of_vcs tab_ok orders_ok Try.func95 Try.call95 (by kernel_rfl) 0 rfl rfl _ rfl ?_
  delta ref02_Product at h
  refine Exists.intro none ?_
  refine Exists.intro none ?_
  refine Exists.intro (CK.plain _ _) (And.intro (Contract.wk (c_math_bits_Mul64 p0 p1) (And.intro rfl (And.intro rfl trivial))) (And.intro rfl ?_))
  refine Exists.intro none ?_
  first | subst h | rw [← h]
  exact (And.intro rfl (And.intro rfl trivial))
theorem c_ref02_Product (p0 : Int) (p1 : Int) : Contract Try.prog 95 [.int .u64 p0, .int .u64 p1] [] (.agg [.int .u64 (ref02_Product p0 p1).Hi, .int .u64 (ref02_Product p0 p1).Lo]) [] := c_ref02_Product' p0 p1 (ref02_Product p0 p1) rfl

theorem c_ref02_Of' (p0 : Int) (r : api_Wide) (h : ref02_Of p0 = r) : Contract Try.prog 96 [.int .u64 p0] [] (.agg [.int .u64 r.Hi, .int .u64 r.Lo]) [] := by
  refine contract_of_vcs tab_ok orders_ok Try.func96 Try.call96 (by kernel_rfl) 0 rfl rfl _ rfl ?_
  delta ref02_Of at h
  refine Exists.intro none ?_
  refine Exists.intro none ?_
  first | subst h | rw [← h]
  exact (And.intro rfl (And.intro rfl trivial))
theorem c_ref02_Of (p0 : Int) : Contract Try.prog 96 [.int .u64 p0] [] (.agg [.int .u64 (ref02_Of p0).Hi, .int .u64 (ref02_Of p0).Lo]) [] := c_ref02_Of' p0 (ref02_Of p0) rfl

theorem c_ref02_bit (p0 : api_Wide) (p1 : Int) (r : Int) (h : ref02_bit p0 p1 = some r) : Contract Try.prog 121 [.agg [.int .u64 p0.Hi, .int .u64 p0.Lo], .int .i64 p1] [] (.int .u64 r) [] := by
  refine contract_of_vcs tab_ok orders_ok Try.func121 Try.call121 (by kernel_rfl) 0 rfl rfl _ rfl ?_
  delta ref02_bit at h
  refine Exists.intro none ?_
  refine Exists.intro none ?_
  refine And.intro (fun g1 => ?_) (fun g1 => ?_)
  · skip
    replace h := cT g1 h
    refine Exists.intro none ?_
    obtain ⟨k2_5, h⟩ := ckS h
    refine And.intro (of_decide_eq_true k2_5) ?_
    replace h := Option.some.inj h
    first | subst h | rw [← h]
    exact (And.intro rfl trivial)
  · skip
    replace h := cF g1 h
    refine Exists.intro none ?_
    obtain ⟨k3_4, h⟩ := ckS h
    refine And.intro (of_decide_eq_true k3_4) ?_
    replace h := Option.some.inj h
    first | subst h | rw [← h]
    exact (And.intro rfl trivial)

theorem c_ref02_double' (p0 : api_Wide) (p1 : Int) (r : (api_Wide × Int)) (h : ref02_double p0 p1 = r) : Contract Try.prog 120 [.agg [.int .u64 p0.Hi, .int .u64 p0.Lo], .int .u64 p1] [] (.tup [.agg [.int .u64 r.1.Hi, .int .u64 r.1.Lo], .int .u64 r.2]) [] := by
  refine contract_of_vcs tab_ok orders_ok Try.func120 Try.call120 (by kernel_rfl) 0 rfl rfl _ rfl ?_
  delta ref02_double at h
  refine Exists.intro none ?_
  refine Exists.intro none ?_
  refine And.intro (by decide) ?_
  refine And.intro (by decide) ?_
  refine And.intro (by decide) ?_
  refine And.intro (by decide) ?_
  first | subst h | rw [← h]
  exact (And.intro rfl (And.intro rfl (And.intro rfl trivial)))
theorem c_ref02_double (p0 : api_Wide) (p1 : Int) : Contract Try.prog 120 [.agg [.int .u64 p0.Hi, .int .u64 p0.Lo], .int .u64 p1] [] (.tup [.agg [.int .u64 (ref02_double p0 p1).1.Hi, .int .u64 (ref02_double p0 p1).1.Lo], .int .u64 (ref02_double p0 p1).2]) [] := c_ref02_double' p0 p1 (ref02_double p0 p1) rfl

theorem c_ref02_Compare' (p0 : api_Wide) (p1 : api_Wide) (r : Int) (h : ref02_Compare p0 p1 = r) : Contract Try.prog 122 [.agg [.int .u64 p0.Hi, .int .u64 p0.Lo], .agg [.int .u64 p1.Hi, .int .u64 p1.Lo]] [] (.int .i64 r) [] := by
  refine contract_of_vcs tab_ok orders_ok Try.func122 Try.call122 (by kernel_rfl) 0 rfl rfl _ rfl ?_
  delta ref02_Compare at h
  refine Exists.intro none ?_
  refine Exists.intro none ?_
  refine Exists.intro (some (⟨Unit, fun _ => [(.tmp 2, .av (.ptr 0 0)), (.tmp 3, .av (.ptr 1 0)), (.tmp 5, .av (.sb ((decide (p0.Hi < p1.Hi)) || ((p0.Hi == p1.Hi) && (decide (p0.Lo < p1.Lo)))))), (.box 0, .box [.int .u64 p0.Hi, .int .u64 p0.Lo]), (.box 1, .box [.int .u64 p1.Hi, .int .u64 p1.Lo])], fun _ => True, fun _ => 0⟩, 1000000)) (And.intro ?_ (fun _ _ => ?_))
  · skip
    refine And.intro (fun g1 => ?_) (fun g1 => ?_)
    · skip
      refine And.intro (fun g2 => ?_) (fun g2 => ?_)
      · skip
        exact Exists.intro [] (Exists.intro [] (Exists.intro () (And.intro trivial (And.intro rfl (And.intro (Eq.symm (oR g1 (aR g2 rfl))) (And.intro rfl (And.intro rfl (And.intro rfl (And.intro rfl trivial)))))))))
      · skip
        exact Exists.intro [] (Exists.intro [] (Exists.intro () (And.intro trivial (And.intro rfl (And.intro (Eq.symm (oR g1 (aL g2))) (And.intro rfl (And.intro rfl (And.intro rfl (And.intro rfl trivial)))))))))
    · skip
      exact Exists.intro [] (Exists.intro [] (Exists.intro () (And.intro trivial (And.intro rfl (And.intro (Eq.symm (oL g1)) (And.intro rfl (And.intro rfl (And.intro rfl (And.intro rfl trivial)))))))))
  · skip
    refine And.intro (fun g3 => ?_) (fun g3 => ?_)
    · skip
      replace h := cT g3 h
      refine Exists.intro none ?_
      first | subst h | rw [← h]
      exact (And.intro rfl trivial)
    · skip
      replace h := cF g3 h
      refine Exists.intro none ?_
      refine And.intro (fun g4 => ?_) (fun g4 => ?_)
      · skip
        replace h := cT g4 h
        refine Exists.intro none ?_
        first | subst h | rw [← h]
        exact (And.intro rfl trivial)
      · skip
        replace h := cF g4 h
        refine Exists.intro none ?_
        first | subst h | rw [← h]
        exact (And.intro rfl trivial)
theorem c_ref02_Compare (p0 : api_Wide) (p1 : api_Wide) : Contract Try.prog 122 [.agg [.int .u64 p0.Hi, .int .u64 p0.Lo], .agg [.int .u64 p1.Hi, .int .u64 p1.Lo]] [] (.int .i64 (ref02_Compare p0 p1)) [] := c_ref02_Compare' p0 p1 (ref02_Compare p0 p1) rfl

theorem c_ref02_Div (p0 : api_Wide) (p1 : api_Wide) (r : (api_Wide × api_Wide × Bool)) (h : ref02_Div p0 p1 = some r) : Contract Try.prog 94 [.agg [.int .u64 p0.Hi, .int .u64 p0.Lo], .agg [.int .u64 p1.Hi, .int .u64 p1.Lo]] [] (.tup [.agg [.int .u64 r.1.Hi, .int .u64 r.1.Lo], .agg [.int .u64 r.2.1.Hi, .int .u64 r.2.1.Lo], .sb r.2.2]) [] := by
  refine contract_of_vcs tab_ok orders_ok Try.func94 Try.call94 (by kernel_rfl) 0 rfl rfl _ rfl ?_
  delta ref02_Div at h
  refine Exists.intro none ?_
  refine Exists.intro none ?_
  refine And.intro (fun g1 => ?_) (fun g1 => ?_)
  · skip
    replace h := cT g1 h
    refine Exists.intro none ?_
    replace h := Option.some.inj h
    first | subst h | rw [← h]
    exact (And.intro rfl (And.intro rfl (And.intro rfl (And.intro rfl (And.intro rfl trivial)))))
  · skip
    replace h := cF g1 h
    refine Exists.intro none ?_
    refine Exists.intro none ?_
    replace h : ref02_Div_l3 p0 p1 (127:Int) (0:Int) (0:Int) (0:Int) (0:Int) = some r := h
    delta ref02_Div_l3 at h
    obtain ⟨n1, h⟩ := loopS h
    refine Exists.intro ⟨(Int × Int × Int × Int × Int) × Nat, fun q => [(.tmp 2, .av (.ptr 0 0)), (.tmp 3, .av (.ptr 1 0)), (.tmp 4, .av (.ptr 2 0)), (.tmp 5, .av (.ptr 3 0)), (.tmp 7, .av (.ptr 512 0)), (.tmp 8, .av (.ptr 513 0)), (.tmp 9, .av (.int .i64 q.1.1)), (.box 0, .box [.int .u64 p0.Hi, .int .u64 p0.Lo]), (.box 1, .box [.int .u64 p1.Hi, .int .u64 p1.Lo]), (.box 2, .box [.int .u64 (0:Int), .int .u64 (0:Int)]), (.box 3, .box [.int .u64 (0:Int), .int .u64 (0:Int)]), (.box 512, .box [.int .u64 q.1.2.1, .int .u64 q.1.2.2.1]), (.box 513, .box [.int .u64 q.1.2.2.2.1, .int .u64 q.1.2.2.2.2])], fun q => loopN (fun (s : (Int × Int × Int × Int × Int)) => ref02_Div_l3s p0 p1 s.1 s.2.1 s.2.2.1 s.2.2.2.1 s.2.2.2.2) q.2 q.1 = some r, fun q => q.2⟩ (And.intro (Exists.intro [] (Exists.intro [] (Exists.intro (((127:Int), (0:Int), (0:Int), (0:Int), (0:Int)), n1) (And.intro h (And.intro rfl (And.intro rfl (And.intro rfl (And.intro rfl (And.intro rfl (And.intro rfl (And.intro rfl (And.intro rfl (And.intro rfl (And.intro rfl (And.intro rfl (And.intro rfl (And.intro rfl (And.intro rfl trivial)))))))))))))))))) ?_)
    clear h
    refine fun q h => ?_
    obtain ⟨⟨v3_9, v3_b3x0_0, v3_b3x0_1, v3_b3x1_0, v3_b3x1_1⟩, n1⟩ := q
    obtain ⟨m1, x1, hm1, h, hl1, hr1⟩ := loopN_step h
    replace hm1 : n1 = m1 + 1 := hm1
    subst hm1
    replace h : ref02_Div_l3s p0 p1 v3_9 v3_b3x0_0 v3_b3x0_1 v3_b3x1_0 v3_b3x1_1 = some x1 := h
    delta ref02_Div_l3s at h
    refine Exists.intro none ?_
    refine And.intro (fun g2 => ?_) (fun g2 => ?_)
    · skip
      replace h := cT g2 h
      refine Exists.intro none ?_
      refine Exists.intro none ?_
      refine Exists.intro none ?_
      obtain ⟨y8_3, e8_3, h⟩ := bS h
      refine Exists.intro (CK.plain _ _) (And.intro (Contract.wk (c_ref02_bit p0 v3_9 y8_3 e8_3) (And.intro rfl (And.intro rfl (And.intro rfl trivial)))) (And.intro rfl ?_))
      refine Exists.intro (CK.plain _ _) (And.intro (Contract.wk (c_ref02_double (api_Wide.mk v3_b3x1_0 v3_b3x1_1) y8_3) (And.intro rfl (And.intro rfl (And.intro rfl trivial)))) (And.intro rfl ?_))
      refine Exists.intro none ?_
      refine Exists.intro none ?_
      refine Exists.intro (some (⟨Unit, fun _ => [(.tmp 2, .av (.ptr 0 0)), (.tmp 3, .av (.ptr 1 0)), (.tmp 4, .av (.ptr 2 0)), (.tmp 5, .av (.ptr 3 0)), (.tmp 7, .av (.ptr 512 0)), (.tmp 8, .av (.ptr 513 0)), (.tmp 9, .av (.int .i64 v3_9)), (.tmp 11, .av (.int .u64 (0:Int))), (.tmp 40, .av (.sb (((ref02_double (api_Wide.mk v3_b3x1_0 v3_b3x1_1) y8_3).2 != (0:Int)) || (decide ((ref02_Compare (ref02_double (api_Wide.mk v3_b3x1_0 v3_b3x1_1) y8_3).1 p1) ≥ (0:Int)))))), (.box 0, .box [.int .u64 p0.Hi, .int .u64 p0.Lo]), (.box 1, .box [.int .u64 p1.Hi, .int .u64 p1.Lo]), (.box 2, .box [.int .u64 (0:Int), .int .u64 (0:Int)]), (.box 3, .box [.int .u64 (0:Int), .int .u64 (0:Int)]), (.box 512, .box [.int .u64 v3_b3x0_0, .int .u64 v3_b3x0_1]), (.box 513, .box [.int .u64 (ref02_double (api_Wide.mk v3_b3x1_0 v3_b3x1_1) y8_3).1.Hi, .int .u64 (ref02_double (api_Wide.mk v3_b3x1_0 v3_b3x1_1) y8_3).1.Lo])], fun _ => True, fun _ => 0⟩, 1000000)) (And.intro ?_ (fun _ _ => ?_))
      · skip
        refine And.intro (fun g3 => ?_) (fun g3 => ?_)
        · skip
          refine Exists.intro (CK.plain _ _) (And.intro (Contract.wk (c_ref02_Compare (ref02_double (api_Wide.mk v3_b3x1_0 v3_b3x1_1) y8_3).1 p1) (And.intro rfl (And.intro rfl (And.intro rfl (And.intro rfl trivial))))) (And.intro rfl ?_))
          exact Exists.intro [] (Exists.intro [] (Exists.intro () (And.intro trivial (And.intro rfl (And.intro rfl (And.intro rfl (And.intro (Eq.symm (oR g3 rfl)) (And.intro rfl (And.intro rfl (And.intro rfl (And.intro rfl (And.intro rfl (And.intro rfl (And.intro rfl (And.intro rfl (And.intro rfl (And.intro rfl (And.intro rfl (And.intro rfl trivial)))))))))))))))))))
        · skip
          exact Exists.intro [] (Exists.intro [] (Exists.intro () (And.intro trivial (And.intro rfl (And.intro rfl (And.intro rfl (And.intro (Eq.symm (oL g3)) (And.intro rfl (And.intro rfl (And.intro rfl (And.intro rfl (And.intro rfl (And.intro rfl (And.intro rfl (And.intro rfl (And.intro rfl (And.intro rfl (And.intro rfl (And.intro rfl trivial)))))))))))))))))))
      · skip
        refine Exists.intro (some (⟨Int × Int × Int, fun q => [(.tmp 2, .av (.ptr 0 0)), (.tmp 3, .av (.ptr 1 0)), (.tmp 4, .av (.ptr 2 0)), (.tmp 5, .av (.ptr 3 0)), (.tmp 7, .av (.ptr 512 0)), (.tmp 8, .av (.ptr 513 0)), (.tmp 9, .av (.int .i64 v3_9)), (.tmp 11, .av (.int .u64 q.1)), (.box 0, .box [.int .u64 p0.Hi, .int .u64 p0.Lo]), (.box 1, .box [.int .u64 p1.Hi, .int .u64 p1.Lo]), (.box 2, .box [.int .u64 (0:Int), .int .u64 (0:Int)]), (.box 3, .box [.int .u64 (0:Int), .int .u64 (0:Int)]), (.box 512, .box [.int .u64 v3_b3x0_0, .int .u64 v3_b3x0_1]), (.box 513, .box [.int .u64 q.2.1, .int .u64 q.2.2])], fun q => ref02_Div_j6 v3_9 v3_b3x0_0 v3_b3x0_1 q.1 q.2.1 q.2.2 = some x1, fun _ => 0⟩, 2000000)) (And.intro ?_ ?_)
        · skip
          refine And.intro (fun g4 => ?_) (fun g4 => ?_)
          · skip
            replace h := cT g4 h
            refine Exists.intro none ?_
            obtain ⟨y11_4, e11_4, h⟩ := bS h
            refine Exists.intro (CK.plain _ _) (And.intro (Contract.wk (c_math_bits_Sub64 (ref02_double (api_Wide.mk v3_b3x1_0 v3_b3x1_1) y8_3).1.Lo p1.Lo (0:Int) y11_4 e11_4) (And.intro rfl (And.intro rfl (And.intro rfl trivial)))) (And.intro rfl ?_))
            refine Exists.intro none ?_
            obtain ⟨y12_5, e12_5, h⟩ := bS h
            refine Exists.intro (CK.plain _ _) (And.intro (Contract.wk (c_math_bits_Sub64 (ref02_double (api_Wide.mk v3_b3x1_0 v3_b3x1_1) y8_3).1.Hi p1.Hi y11_4.2 y12_5 e12_5) (And.intro rfl (And.intro rfl (And.intro rfl trivial)))) (And.intro rfl ?_))
            refine Exists.intro none ?_
            exact Exists.intro [] (Exists.intro [] (Exists.intro ((1:Int), y12_5.1, y11_4.1) (And.intro h (And.intro rfl (And.intro rfl (And.intro rfl (And.intro rfl (And.intro rfl (And.intro rfl (And.intro rfl (And.intro rfl (And.intro rfl (And.intro rfl (And.intro rfl (And.intro rfl (And.intro rfl (And.intro rfl (And.intro rfl trivial))))))))))))))))))
          · skip
            replace h := cF g4 h
            exact Exists.intro [] (Exists.intro [] (Exists.intro ((0:Int), (ref02_double (api_Wide.mk v3_b3x1_0 v3_b3x1_1) y8_3).1.Hi, (ref02_double (api_Wide.mk v3_b3x1_0 v3_b3x1_1) y8_3).1.Lo) (And.intro h (And.intro rfl (And.intro rfl (And.intro rfl (And.intro rfl (And.intro rfl (And.intro rfl (And.intro rfl (And.intro rfl (And.intro rfl (And.intro rfl (And.intro rfl (And.intro rfl (And.intro rfl (And.intro rfl (And.intro rfl trivial))))))))))))))))))
        · skip
          clear h
          refine fun q h => ?_
          obtain ⟨j6_11, j6_b3x1_0, j6_b3x1_1⟩ := q
          replace h : ref02_Div_j6 v3_9 v3_b3x0_0 v3_b3x0_1 j6_11 j6_b3x1_0 j6_b3x1_1 = some x1 := h
          delta ref02_Div_j6 at h
          refine Exists.intro none ?_
          refine Exists.intro (CK.plain _ _) (And.intro (Contract.wk (c_ref02_double (api_Wide.mk v3_b3x0_0 v3_b3x0_1) j6_11) (And.intro rfl (And.intro rfl (And.intro rfl trivial)))) (And.intro rfl ?_))
          refine Exists.intro none ?_
          exact Exists.intro [] (Exists.intro [] (Exists.intro (((w64 (v3_9 - (1:Int))), (ref02_double (api_Wide.mk v3_b3x0_0 v3_b3x0_1) j6_11).1.Hi, (ref02_double (api_Wide.mk v3_b3x0_0 v3_b3x0_1) j6_11).1.Lo, j6_b3x1_0, j6_b3x1_1), m1) (And.intro (hl1 ((w64 (v3_9 - (1:Int))), (ref02_double (api_Wide.mk v3_b3x0_0 v3_b3x0_1) j6_11).1.Hi, (ref02_double (api_Wide.mk v3_b3x0_0 v3_b3x0_1) j6_11).1.Lo, j6_b3x1_0, j6_b3x1_1) (Option.some.inj h).symm) (And.intro (Nat.lt_succ_self m1) (And.intro rfl (And.intro rfl (And.intro rfl (And.intro rfl (And.intro rfl (And.intro rfl (And.intro rfl (And.intro rfl (And.intro rfl (And.intro rfl (And.intro rfl (And.intro rfl (And.intro rfl (And.intro rfl trivial))))))))))))))))))
    · skip
      replace h := cF g2 h
      replace h := popS h hr1
      refine Exists.intro none ?_
      replace h := Option.some.inj h
      first | subst h | rw [← h]
      exact (And.intro rfl (And.intro rfl (And.intro rfl (And.intro rfl (And.intro rfl trivial)))))

theorem c_ref08_Target (p0 : Int) (p1 : Int) (p2 : Int) (r : Int) (h : ref08_Target p0 p1 p2 = some r) : Contract Try.prog 64 [.int .i64 p0, .int .i64 p1, .int .i64 p2] [] (.int .i64 r) [] := by
  refine contract_of_vcs tab_ok orders_ok Try.func64 Try.call64 (by kernel_rfl) 0 rfl rfl _ rfl ?_
  delta ref08_Target at h
  refine Exists.intro none ?_
  refine Exists.intro none ?_
  obtain ⟨y1_8, e1_8, h⟩ := bS h
  refine Exists.intro (CK.plain _ _) (And.intro (Contract.wk (c_ref02_Product (wu64 p0) (wu64 p2)) (And.intro rfl (And.intro rfl trivial))) (And.intro rfl ?_))
  refine Exists.intro (CK.plain _ _) (And.intro (Contract.wk (c_ref02_Of (wu64 p1)) (And.intro rfl trivial)) (And.intro rfl ?_))
  refine Exists.intro (CK.plain _ _) (And.intro (Contract.wk (c_ref02_Div (ref02_Product (wu64 p0) (wu64 p2)) (ref02_Of (wu64 p1)) y1_8 e1_8) (And.intro rfl (And.intro rfl (And.intro rfl (And.intro rfl trivial))))) (And.intro rfl ?_))
  refine Exists.intro none ?_
  refine Exists.intro none ?_
  refine Exists.intro none ?_
  refine And.intro (fun g1 => ?_) (fun g1 => ?_)
  · skip
    replace h := cT g1 h
    refine Exists.intro none ?_
    refine Exists.intro none ?_
    replace h := Option.some.inj h
    first | subst h | rw [← h]
    exact (And.intro rfl trivial)
  · skip
    replace h := cF g1 h
    refine Exists.intro none ?_
    replace h := Option.some.inj h
    first | subst h | rw [← h]
    exact (And.intro rfl trivial)

theorem c_ref08_Quantile (p0 : (List api_Item)) (p1 : Int) (p2 : Int) (r : (Int × Bool)) (h : ref08_Quantile p0 p1 p2 = some r) : Contract Try.prog 35 [.lst 2 false (List.map enc_api_Item p0), .int .i64 p1, .int .i64 p2] [] (.tup [.int .i64 r.1, .sb r.2]) [] := by
  refine contract_of_vcs tab_ok orders_ok Try.func35 Try.call35 (by kernel_rfl) 0 rfl rfl _ rfl ?_
  delta ref08_Quantile at h
  refine Exists.intro none ?_
  refine Exists.intro none ?_
  refine Exists.intro none ?_
  refine Exists.intro [.int .i64 (p0.length : Int)] (And.intro (lenS enc_api_Item p0) ?_)
  refine And.intro (fun g1 => ?_) (fun g1 => ?_)
  · skip
    refine Exists.intro (CK.plain _ _) (And.intro (Contract.wk (c_ref08_Asks p1 p2) (And.intro rfl (And.intro rfl trivial))) (And.intro rfl ?_))
    refine And.intro (fun g2 => ?_) (fun g2 => ?_)
    · skip
      replace h := cT (oR g1 g2) h
      refine Exists.intro none ?_
      replace h := Option.some.inj h
      first | subst h | rw [← h]
      exact (And.intro rfl (And.intro rfl trivial))
    · skip
      replace h := cF (oR g1 g2) h
      refine Exists.intro none ?_
      obtain ⟨y3_4, e3_4, h⟩ := bS h
      refine Exists.intro [.int .i64 (p0.length : Int)] (And.intro (lenS enc_api_Item p0) ?_)
      refine Exists.intro (CK.plain _ _) (And.intro (Contract.wk (c_ref08_Target p1 p2 (p0.length : Int) y3_4 e3_4) (And.intro rfl (And.intro rfl (And.intro rfl trivial)))) (And.intro rfl ?_))
      refine Exists.intro none ?_
      refine Exists.intro [.int .i64 (p0.length : Int)] (And.intro (lenS enc_api_Item p0) ?_)
      replace h : ref08_Quantile_l3 p0 y3_4 (0:Int) = some r := h
      delta ref08_Quantile_l3 at h
      obtain ⟨n1, h⟩ := loopS h
      refine Exists.intro ⟨Int × Nat, fun q => [(.tmp 0, .av (.lst 2 false (List.map enc_api_Item p0))), (.tmp 8, .av (.int .i64 y3_4)), (.tmp 25, .av (.lst 2 false (List.map enc_api_Item p0))), (.tmp 26, .av (.int .i64 (p0.length : Int))), (.tmp 27, .av (.int .i64 q.1))], fun q => loopN (fun (s : Int) => ref08_Quantile_l3s p0 y3_4 s) q.2 q.1 = some r, fun q => q.2⟩ (And.intro (Exists.intro [] (Exists.intro [] (Exists.intro ((0:Int), n1) (And.intro h (And.intro rfl (And.intro ff (And.intro rfl (And.intro rfl (And.intro ff (And.intro rfl (And.intro rfl (And.intro rfl trivial)))))))))))) ?_)
      clear h
      refine fun q h => ?_
      obtain ⟨v3_27, n1⟩ := q
      obtain ⟨m1, x1, hm1, h, hl1, hr1⟩ := loopN_step h
      replace hm1 : n1 = m1 + 1 := hm1
      subst hm1
      replace h : ref08_Quantile_l3s p0 y3_4 v3_27 = some x1 := h
      delta ref08_Quantile_l3s at h
      refine Exists.intro none ?_
      refine And.intro (fun g3 => ?_) (fun g3 => ?_)
      · skip
        replace h := cT g3 h
        refine Exists.intro none ?_
        obtain ⟨x6_0, e6_0, h⟩ := bS h
        refine Exists.intro [.int .i64 x6_0.T, .int .i64 x6_0.V] (And.intro (idx_map enc_api_Item e6_0) ?_)
        refine Exists.intro none ?_
        obtain ⟨y7_3, e7_3, h⟩ := bS h
        obtain ⟨y7_10, e7_10, h⟩ := bS h
        refine Exists.intro (some (⟨Unit, fun _ => [(.tmp 0, .av (.lst 2 false (List.map enc_api_Item p0))), (.tmp 8, .av (.int .i64 y3_4)), (.tmp 10, .av (.ptr 1282 0)), (.tmp 25, .av (.lst 2 false (List.map enc_api_Item p0))), (.tmp 26, .av (.int .i64 (p0.length : Int))), (.tmp 27, .av (.int .i64 v3_27)), (.tmp 44, .av (.sb ((decide (y7_3 < y3_4)) && (decide (y7_10 ≥ y3_4))))), (.box 1282, .box [.int .i64 x6_0.T, .int .i64 x6_0.V])], fun _ => True, fun _ => 0⟩, 1000000)) (And.intro ?_ (fun _ _ => ?_))
        · skip
          refine Exists.intro (CK.plain _ _) (And.intro (Contract.wk (c_ref08_Below p0 x6_0.V y7_3 e7_3) (And.intro ff (And.intro rfl (And.intro rfl trivial)))) (And.intro rfl ?_))
          refine And.intro (fun g4 => ?_) (fun g4 => ?_)
          · skip
            refine Exists.intro (CK.plain _ _) (And.intro (Contract.wk (c_ref08_Rank p0 x6_0.V y7_10 (gdT g4 e7_10)) (And.intro ff (And.intro rfl (And.intro rfl trivial)))) (And.intro rfl ?_))
            exact Exists.intro [] (Exists.intro [] (Exists.intro () (And.intro trivial (And.intro rfl (And.intro ff (And.intro rfl (And.intro rfl (And.intro ff (And.intro rfl (And.intro rfl (And.intro rfl (And.intro (Eq.symm (aR g4 rfl)) (And.intro rfl (And.intro rfl trivial))))))))))))))
          · skip
            exact Exists.intro [] (Exists.intro [] (Exists.intro () (And.intro trivial (And.intro rfl (And.intro ff (And.intro rfl (And.intro rfl (And.intro ff (And.intro rfl (And.intro rfl (And.intro rfl (And.intro (Eq.symm (aL g4)) (And.intro rfl (And.intro rfl trivial))))))))))))))
        · skip
          refine And.intro (fun g5 => ?_) (fun g5 => ?_)
          · skip
            replace h := cT g5 h
            refine Exists.intro none ?_
            replace h := retS h hr1
            first | subst h | rw [← h]
            exact (And.intro rfl (And.intro rfl trivial))
          · skip
            replace h := cF g5 h
            refine Exists.intro none ?_
            exact Exists.intro [] (Exists.intro [] (Exists.intro ((w64 (v3_27 + (1:Int))), m1) (And.intro (hl1 (w64 (v3_27 + (1:Int))) (Option.some.inj h).symm) (And.intro (Nat.lt_succ_self m1) (And.intro rfl (And.intro ff (And.intro rfl (And.intro rfl (And.intro ff (And.intro rfl (And.intro rfl (And.intro rfl trivial))))))))))))
      · skip
        replace h := cF g3 h
        replace h := popS h hr1
        refine Exists.intro none ?_
        replace h := Option.some.inj h
        first | subst h | rw [← h]
        exact (And.intro rfl (And.intro rfl trivial))
  · skip
    replace h := cT (oL g1) h
    refine Exists.intro none ?_
    replace h := Option.some.inj h
    first | subst h | rw [← h]
    exact (And.intro rfl (And.intro rfl trivial))

theorem c_exact_Rank (p0 : (List api_Item)) (p1 : Int) (r : Int) (h : exact_Rank p0 p1 = some r) : Contract Try.prog 36 [.lst 2 false (List.map enc_api_Item p0), .int .i64 p1] [] (.int .i64 r) [] := by
  refine contract_of_vcs tab_ok orders_ok Try.func36 Try.call36 (by kernel_rfl) 0 rfl rfl _ rfl ?_
  delta exact_Rank at h
  refine Exists.intro none ?_
  refine Exists.intro none ?_
  refine Exists.intro none ?_
  refine Exists.intro [.int .i64 (p0.length : Int)] (And.intro (lenS enc_api_Item p0) ?_)
  replace h : exact_Rank_l2 p0 p1 (0:Int) (0:Int) = some r := h
  delta exact_Rank_l2 at h
  obtain ⟨n1, h⟩ := loopS h
  refine Exists.intro ⟨(Int × Int) × Nat, fun q => [(.tmp 1, .av (.int .i64 p1)), (.tmp 5, .av (.int .i64 q.1.1)), (.tmp 8, .av (.lst 2 false (List.map enc_api_Item p0))), (.tmp 9, .av (.int .i64 (p0.length : Int))), (.tmp 10, .av (.int .i64 q.1.2))], fun q => loopN (fun (s : (Int × Int)) => exact_Rank_l2s p0 p1 s.1 s.2) q.2 q.1 = some r, fun q => q.2⟩ (And.intro (Exists.intro [] (Exists.intro [] (Exists.intro (((0:Int), (0:Int)), n1) (And.intro h (And.intro rfl (And.intro rfl (And.intro rfl (And.intro ff (And.intro rfl (And.intro rfl (And.intro rfl trivial))))))))))) ?_)
  clear h
  refine fun q h => ?_
  obtain ⟨⟨v2_5, v2_10⟩, n1⟩ := q
  obtain ⟨m1, x1, hm1, h, hl1, hr1⟩ := loopN_step h
  replace hm1 : n1 = m1 + 1 := hm1
  subst hm1
  replace h : exact_Rank_l2s p0 p1 v2_5 v2_10 = some x1 := h
  delta exact_Rank_l2s at h
  refine Exists.intro none ?_
  refine And.intro (fun g1 => ?_) (fun g1 => ?_)
  · skip
    replace h := cT g1 h
    refine Exists.intro none ?_
    refine Exists.intro none ?_
    obtain ⟨x4_0, e4_0, h⟩ := bS h
    refine Exists.intro [.int .i64 x4_0.T, .int .i64 x4_0.V] (And.intro (idx_map enc_api_Item e4_0) ?_)
    refine Exists.intro none ?_
    refine Exists.intro none ?_
    refine And.intro (fun g2 => ?_) (fun g2 => ?_)
    · skip
      replace h := cT g2 h
      refine Exists.intro none ?_
      refine Exists.intro none ?_
      exact Exists.intro [] (Exists.intro [] (Exists.intro (((w64 (v2_5 + (1:Int))), (w64 (v2_10 + (1:Int)))), m1) (And.intro (hl1 ((w64 (v2_5 + (1:Int))), (w64 (v2_10 + (1:Int)))) (Option.some.inj h).symm) (And.intro (Nat.lt_succ_self m1) (And.intro rfl (And.intro rfl (And.intro rfl (And.intro ff (And.intro rfl (And.intro rfl (And.intro rfl trivial)))))))))))
    · skip
      replace h := cF g2 h
      refine Exists.intro none ?_
      exact Exists.intro [] (Exists.intro [] (Exists.intro ((v2_5, (w64 (v2_10 + (1:Int)))), m1) (And.intro (hl1 (v2_5, (w64 (v2_10 + (1:Int)))) (Option.some.inj h).symm) (And.intro (Nat.lt_succ_self m1) (And.intro rfl (And.intro rfl (And.intro rfl (And.intro ff (And.intro rfl (And.intro rfl (And.intro rfl trivial)))))))))))
  · skip
    replace h := cF g1 h
    replace h := popS h hr1
    refine Exists.intro none ?_
    replace h := Option.some.inj h
    first | subst h | rw [← h]
    exact (And.intro rfl trivial)

theorem c_exact_Below (p0 : (List api_Item)) (p1 : Int) (r : Int) (h : exact_Below p0 p1 = some r) : Contract Try.prog 37 [.lst 2 false (List.map enc_api_Item p0), .int .i64 p1] [] (.int .i64 r) [] := by
  refine contract_of_vcs tab_ok orders_ok Try.func37 Try.call37 (by kernel_rfl) 0 rfl rfl _ rfl ?_
  delta exact_Below at h
  refine Exists.intro none ?_
  refine Exists.intro none ?_
  refine Exists.intro none ?_
  refine Exists.intro [.int .i64 (p0.length : Int)] (And.intro (lenS enc_api_Item p0) ?_)
  replace h : exact_Below_l2 p0 p1 (0:Int) (0:Int) = some r := h
  delta exact_Below_l2 at h
  obtain ⟨n1, h⟩ := loopS h
  refine Exists.intro ⟨(Int × Int) × Nat, fun q => [(.tmp 1, .av (.int .i64 p1)), (.tmp 5, .av (.int .i64 q.1.1)), (.tmp 8, .av (.lst 2 false (List.map enc_api_Item p0))), (.tmp 9, .av (.int .i64 (p0.length : Int))), (.tmp 10, .av (.int .i64 q.1.2))], fun q => loopN (fun (s : (Int × Int)) => exact_Below_l2s p0 p1 s.1 s.2) q.2 q.1 = some r, fun q => q.2⟩ (And.intro (Exists.intro [] (Exists.intro [] (Exists.intro (((0:Int), (0:Int)), n1) (And.intro h (And.intro rfl (And.intro rfl (And.intro rfl (And.intro ff (And.intro rfl (And.intro rfl (And.intro rfl trivial))))))))))) ?_)
  clear h
  refine fun q h => ?_
  obtain ⟨⟨v2_5, v2_10⟩, n1⟩ := q
  obtain ⟨m1, x1, hm1, h, hl1, hr1⟩ := loopN_step h
  replace hm1 : n1 = m1 + 1 := hm1
  subst hm1
  replace h : exact_Below_l2s p0 p1 v2_5 v2_10 = some x1 := h
  delta exact_Below_l2s at h
  refine Exists.intro none ?_
  refine And.intro (fun g1 => ?_) (fun g1 => ?_)
  · skip
    replace h := cT g1 h
    refine Exists.intro none ?_
    refine Exists.intro none ?_
    obtain ⟨x4_0, e4_0, h⟩ := bS h
    refine Exists.intro [.int .i64 x4_0.T, .int .i64 x4_0.V] (And.intro (idx_map enc_api_Item e4_0) ?_)
    refine Exists.intro none ?_
    refine Exists.intro none ?_
    refine And.intro (fun g2 => ?_) (fun g2 => ?_)
    · skip
      replace h := cT g2 h
      refine Exists.intro none ?_
      refine Exists.intro none ?_
      exact Exists.intro [] (Exists.intro [] (Exists.intro (((w64 (v2_5 + (1:Int))), (w64 (v2_10 + (1:Int)))), m1) (And.intro (hl1 ((w64 (v2_5 + (1:Int))), (w64 (v2_10 + (1:Int)))) (Option.some.inj h).symm) (And.intro (Nat.lt_succ_self m1) (And.intro rfl (And.intro rfl (And.intro rfl (And.intro ff (And.intro rfl (And.intro rfl (And.intro rfl trivial)))))))))))
    · skip
      replace h := cF g2 h
      refine Exists.intro none ?_
      exact Exists.intro [] (Exists.intro [] (Exists.intro ((v2_5, (w64 (v2_10 + (1:Int)))), m1) (And.intro (hl1 (v2_5, (w64 (v2_10 + (1:Int)))) (Option.some.inj h).symm) (And.intro (Nat.lt_succ_self m1) (And.intro rfl (And.intro rfl (And.intro rfl (And.intro ff (And.intro rfl (And.intro rfl (And.intro rfl trivial)))))))))))
  · skip
    replace h := cF g1 h
    replace h := popS h hr1
    refine Exists.intro none ?_
    replace h := Option.some.inj h
    first | subst h | rw [← h]
    exact (And.intro rfl trivial)

theorem c_law08_ExactRanks (p0 : (List api_Item)) (p1 : Int) (p2 : Int) (p3 : Int) (r : Bool) (h : law08_ExactRanks p0 p1 p2 p3 = some r) : Contract Try.prog 9 [.lst 2 false (List.map enc_api_Item p0), .int .i64 p1, .int .i64 p2, .int .i64 p3] [] (.sb r) [] := by
  refine contract_of_vcs tab_ok orders_ok Try.func9 Try.call9 (by kernel_rfl) 0 rfl rfl _ rfl ?_
  delta law08_ExactRanks at h
  refine Exists.intro none ?_
  refine Exists.intro none ?_
  refine Exists.intro [.int .i64 (p0.length : Int)] (And.intro (lenS enc_api_Item p0) ?_)
  refine And.intro (fun g1 => ?_) (fun g1 => ?_)
  · skip
    replace h := cT g1 h
    refine Exists.intro none ?_
    obtain ⟨y2_0, e2_0, h⟩ := bS h
    refine Exists.intro (CK.plain _ _) (And.intro (Contract.wk (c_law08_awake y2_0 e2_0) trivial) (And.intro rfl ?_))
    replace h := Option.some.inj h
    first | subst h | rw [← h]
    exact (And.intro rfl trivial)
  · skip
    replace h := cF g1 h
    refine Exists.intro none ?_
    obtain ⟨y3_3, e3_3, h⟩ := bS h
    refine Exists.intro (CK.plain _ _) (And.intro (Contract.wk (c_exact_Quantile p0 p2 p3 y3_3 e3_3) (And.intro ff (And.intro rfl (And.intro rfl (And.intro rfl trivial))))) (And.intro rfl ?_))
    refine Exists.intro none ?_
    obtain ⟨y4_3, e4_3, h⟩ := bS h
    refine Exists.intro (CK.plain _ _) (And.intro (Contract.wk (c_ref08_Quantile p0 p2 p3 y4_3 e4_3) (And.intro ff (And.intro rfl (And.intro rfl (And.intro rfl trivial))))) (And.intro rfl ?_))
    refine Exists.intro none ?_
    obtain ⟨y5_2, e5_2, h⟩ := bS h
    obtain ⟨y5_5, e5_5, h⟩ := bS h
    obtain ⟨y5_10, e5_10, h⟩ := bS h
    obtain ⟨y5_13, e5_13, h⟩ := bS h
    obtain ⟨y5_27, e5_27, h⟩ := bS h
    refine Exists.intro none ?_
    refine Exists.intro (CK.plain _ _) (And.intro (Contract.wk (c_exact_Rank p0 p1 y5_2 e5_2) (And.intro ff (And.intro rfl (And.intro rfl trivial)))) (And.intro rfl ?_))
    refine Exists.intro (CK.plain _ _) (And.intro (Contract.wk (c_ref08_Rank p0 p1 y5_5 e5_5) (And.intro ff (And.intro rfl (And.intro rfl trivial)))) (And.intro rfl ?_))
    refine And.intro (fun g2 => ?_) (fun g2 => ?_)
    · skip
      refine Exists.intro (CK.plain _ _) (And.intro (Contract.wk (c_exact_Below p0 p1 y5_10 (gdT g2 e5_10)) (And.intro ff (And.intro rfl (And.intro rfl trivial)))) (And.intro rfl ?_))
      refine Exists.intro (CK.plain _ _) (And.intro (Contract.wk (c_ref08_Below p0 p1 y5_13 (gdT g2 e5_13)) (And.intro ff (And.intro rfl (And.intro rfl trivial)))) (And.intro rfl ?_))
      refine And.intro (fun g3 => ?_) (fun g3 => ?_)
      · skip
        refine And.intro (fun g4 => ?_) (fun g4 => ?_)
        · skip
          refine And.intro (fun g5 => ?_) (fun g5 => ?_)
          · skip
            refine Exists.intro (CK.plain _ _) (And.intro (Contract.wk (c_law08_awake y5_27 (gdT (aR (aR (aR g2 g3) g4) g5) e5_27)) trivial) (And.intro rfl ?_))
            replace h := Option.some.inj h
            first | subst h | rw [← h]
            exact (And.intro (Eq.symm (aR (aR (aR (aR g2 g3) g4) g5) rfl)) trivial)
          · skip
            replace h := Option.some.inj h
            first | subst h | rw [← h]
            exact (And.intro (Eq.symm (aL (aR (aR (aR g2 g3) g4) g5))) trivial)
        · skip
          replace h := Option.some.inj h
          first | subst h | rw [← h]
          exact (And.intro (Eq.symm (aL (aL (aR (aR g2 g3) g4)))) trivial)
      · skip
        replace h := Option.some.inj h
        first | subst h | rw [← h]
        exact (And.intro (Eq.symm (aL (aL (aL (aR g2 g3))))) trivial)
    · skip
      replace h := Option.some.inj h
      first | subst h | rw [← h]
      exact (And.intro (Eq.symm (aL (aL (aL (aL g2))))) trivial)

end Go.Proofs.Ytpclnmpmammlfaa
