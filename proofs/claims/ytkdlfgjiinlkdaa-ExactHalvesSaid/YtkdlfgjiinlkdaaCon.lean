/- The contracts: each function of the program does what its function on plain data says. Made by program. -/
import Derived.Test.YtkdlfgjiinlkdaaTab
import Derived.Test.YtkdlfgjiinlkdaaWin
import Derived.Test.YtkdlfgjiinlkdaaWalk
set_option linter.unusedVariables false
set_option linter.unusedSimpArgs false
set_option linter.unnecessarySimpa false
set_option maxHeartbeats 4000000
namespace Go.Proofs.Ytkdlfgjiinlkdaa
open Go.Vc Go.Dec Go.Win

theorem c_num_size' (p0 : Int) (r : Int) (h : num_size p0 = r) : Contract Try.prog 96 [.int .i64 p0] [] (.int .u64 r) [] := by
  refine contract_of_vcs tab_ok orders_ok Try.func96 Try.call96 (by kernel_rfl) 0 rfl rfl _ rfl ?_
  delta num_size at h
  refine Exists.intro none ?_
  refine Exists.intro none ?_
  refine And.intro (fun g1 => ?_) (fun g1 => ?_)
  · skip
    replace h := cT g1 h
    refine Exists.intro none ?_
    subst h
    exact (And.intro rfl trivial)
  · skip
    replace h := cF g1 h
    refine Exists.intro none ?_
    subst h
    exact (And.intro rfl trivial)
theorem c_num_size (p0 : Int) : Contract Try.prog 96 [.int .i64 p0] [] (.int .u64 (num_size p0)) [] := c_num_size' p0 (num_size p0) rfl

theorem c_math_bits_Mul64' (p0 : Int) (p1 : Int) (r : (Int × Int)) (h : math_bits_Mul64 p0 p1 = r) : Contract Try.prog 85 [.int .u64 p0, .int .u64 p1] [] (.tup [.int .u64 r.1, .int .u64 r.2]) [] := by
  refine contract_of_vcs tab_ok orders_ok Try.func85 Try.call85 (by kernel_rfl) 0 rfl rfl _ rfl ?_
  delta math_bits_Mul64 at h
  refine Exists.intro none ?_
  refine Exists.intro none ?_
  refine Exists.intro none ?_
  refine And.intro (by decide) ?_
  refine Exists.intro none ?_
  refine Exists.intro none ?_
  refine And.intro (by decide) ?_
  refine Exists.intro none ?_
  refine Exists.intro none ?_
  refine And.intro (by decide) ?_
  refine Exists.intro none ?_
  refine Exists.intro none ?_
  refine And.intro (by decide) ?_
  refine Exists.intro none ?_
  refine Exists.intro none ?_
  refine And.intro (by decide) ?_
  refine Exists.intro none ?_
  subst h
  exact (And.intro rfl (And.intro rfl trivial))
theorem c_math_bits_Mul64 (p0 : Int) (p1 : Int) : Contract Try.prog 85 [.int .u64 p0, .int .u64 p1] [] (.tup [.int .u64 (math_bits_Mul64 p0 p1).1, .int .u64 (math_bits_Mul64 p0 p1).2]) [] := c_math_bits_Mul64' p0 p1 (math_bits_Mul64 p0 p1) rfl

theorem c_num_Mul' (p0 : Int) (p1 : Int) (r : (Int × Bool)) (h : num_Mul p0 p1 = r) : Contract Try.prog 65 [.int .i64 p0, .int .i64 p1] [] (.tup [.int .i64 r.1, .sb r.2]) [] := by
  refine contract_of_vcs tab_ok orders_ok Try.func65 Try.call65 (by kernel_rfl) 0 rfl rfl _ rfl ?_
  delta num_Mul at h
  refine Exists.intro none ?_
  refine Exists.intro none ?_
  refine Exists.intro _ (Exists.intro _ (And.intro (Contract.wk (c_num_size p0) (And.intro rfl trivial)) (And.intro rfl ?_)))
  refine Exists.intro _ (Exists.intro _ (And.intro (Contract.wk (c_num_size p1) (And.intro rfl trivial)) (And.intro rfl ?_)))
  refine Exists.intro _ (Exists.intro _ (And.intro (Contract.wk (c_math_bits_Mul64 (num_size p0) (num_size p1)) (And.intro rfl (And.intro rfl trivial))) (And.intro rfl ?_)))
  refine Exists.intro none ?_
  refine Exists.intro none ?_
  refine Exists.intro none ?_
  refine Exists.intro (some (⟨Int, fun j1_9 => [(.tmp 6, .av (.int .u64 (math_bits_Mul64 (num_size p0) (num_size p1)).1)), (.tmp 7, .av (.int .u64 (math_bits_Mul64 (num_size p0) (num_size p1)).2)), (.tmp 8, .av (.sb (!((decide (p0 < (0:Int))) == (decide (p1 < (0:Int))))))), (.tmp 9, .av (.int .u64 j1_9))], fun j1_9 => num_Mul_j1 p0 p1 (math_bits_Mul64 (num_size p0) (num_size p1)) j1_9 = r, fun _ => 0⟩, 1000000)) (And.intro ?_ ?_)
  · skip
    refine And.intro (fun g1 => ?_) (fun g1 => ?_)
    · skip
      replace h := cT g1 h
      refine Exists.intro none ?_
      exact Exists.intro [] (Exists.intro [] (Exists.intro (wu64 ((9223372036854775807:Int) + (1:Int))) (And.intro h (And.intro rfl (And.intro rfl (And.intro rfl (And.intro rfl (And.intro rfl trivial))))))))
    · skip
      replace h := cF g1 h
      exact Exists.intro [] (Exists.intro [] (Exists.intro (9223372036854775807:Int) (And.intro h (And.intro rfl (And.intro rfl (And.intro rfl (And.intro rfl (And.intro rfl trivial))))))))
  · skip
    clear h
    refine fun j1_9 h => ?_
    replace h : num_Mul_j1 p0 p1 (math_bits_Mul64 (num_size p0) (num_size p1)) j1_9 = r := h
    delta num_Mul_j1 at h
    refine Exists.intro none ?_
    refine Exists.intro none ?_
    refine And.intro (fun g2 => ?_) (fun g2 => ?_)
    · skip
      refine And.intro (fun g3 => ?_) (fun g3 => ?_)
      · skip
        replace h := cT (oR g2 g3) h
        refine Exists.intro none ?_
        subst h
        exact (And.intro rfl (And.intro rfl trivial))
      · skip
        replace h := cF (oR g2 g3) h
        refine Exists.intro none ?_
        refine And.intro (fun g4 => ?_) (fun g4 => ?_)
        · skip
          replace h := cT g4 h
          refine Exists.intro none ?_
          subst h
          exact (And.intro rfl (And.intro rfl trivial))
        · skip
          replace h := cF g4 h
          refine Exists.intro none ?_
          subst h
          exact (And.intro rfl (And.intro rfl trivial))
    · skip
      replace h := cT (oL g2) h
      refine Exists.intro none ?_
      subst h
      exact (And.intro rfl (And.intro rfl trivial))
theorem c_num_Mul (p0 : Int) (p1 : Int) : Contract Try.prog 65 [.int .i64 p0, .int .i64 p1] [] (.tup [.int .i64 (num_Mul p0 p1).1, .sb (num_Mul p0 p1).2]) [] := c_num_Mul' p0 p1 (num_Mul p0 p1) rfl

theorem c_num_Add' (p0 : Int) (p1 : Int) (r : (Int × Bool)) (h : num_Add p0 p1 = r) : Contract Try.prog 66 [.int .i64 p0, .int .i64 p1] [] (.tup [.int .i64 r.1, .sb r.2]) [] := by
  refine contract_of_vcs tab_ok orders_ok Try.func66 Try.call66 (by kernel_rfl) 0 rfl rfl _ rfl ?_
  delta num_Add at h
  refine Exists.intro none ?_
  refine Exists.intro none ?_
  refine Exists.intro none ?_
  refine Exists.intro (some (⟨Unit, fun _ => [(.tmp 6, .av (.int .i64 (w64 (p0 + p1)))), (.tmp 21, .av (.sb (((decide (p0 ≥ (0:Int))) == (decide (p1 ≥ (0:Int)))) && (!((decide ((w64 (p0 + p1)) ≥ (0:Int))) == (decide (p0 ≥ (0:Int))))))))], fun _ => True, fun _ => 0⟩, 1000000)) (And.intro ?_ (fun _ _ => ?_))
  · skip
    refine And.intro (fun g1 => ?_) (fun g1 => ?_)
    · skip
      exact Exists.intro [] (Exists.intro [] (Exists.intro () (And.intro trivial (And.intro rfl (And.intro rfl (And.intro (Eq.symm (aR g1 rfl)) trivial))))))
    · skip
      exact Exists.intro [] (Exists.intro [] (Exists.intro () (And.intro trivial (And.intro rfl (And.intro rfl (And.intro (Eq.symm (aL g1)) trivial))))))
  · skip
    refine And.intro (fun g2 => ?_) (fun g2 => ?_)
    · skip
      replace h := cT g2 h
      refine Exists.intro none ?_
      subst h
      exact (And.intro rfl (And.intro rfl trivial))
    · skip
      replace h := cF g2 h
      refine Exists.intro none ?_
      subst h
      exact (And.intro rfl (And.intro rfl trivial))
theorem c_num_Add (p0 : Int) (p1 : Int) : Contract Try.prog 66 [.int .i64 p0, .int .i64 p1] [] (.tup [.int .i64 (num_Add p0 p1).1, .sb (num_Add p0 p1).2]) [] := c_num_Add' p0 p1 (num_Add p0 p1) rfl

theorem c_exact_Squares (p0 : (List api_Item)) (r : (Int × Bool)) (h : exact_Squares p0 = some r) : Contract Try.prog 30 [.lst 2 false (List.map enc_api_Item p0)] [] (.tup [.int .i64 r.1, .sb r.2]) [] := by
  refine contract_of_vcs tab_ok orders_ok Try.func30 Try.call30 (by kernel_rfl) 0 rfl rfl _ rfl ?_
  delta exact_Squares at h
  refine Exists.intro none ?_
  refine Exists.intro none ?_
  refine Exists.intro none ?_
  refine Exists.intro [.int .i64 (p0.length : Int)] (And.intro (lenS enc_api_Item p0) ?_)
  replace h : exact_Squares_l2 p0 (0:Int) (0:Int) = some r := h
  delta exact_Squares_l2 at h
  obtain ⟨n1, h⟩ := loopS h
  refine Exists.intro ⟨(Int × Int) × Nat, fun q => [(.tmp 4, .av (.int .i64 q.1.1)), (.tmp 9, .av (.lst 2 false (List.map enc_api_Item p0))), (.tmp 10, .av (.int .i64 (p0.length : Int))), (.tmp 11, .av (.int .i64 q.1.2))], fun q => loopN (fun (s : (Int × Int)) => exact_Squares_l2s p0 s.1 s.2) q.2 q.1 = some r, fun q => q.2⟩ (And.intro (Exists.intro [] (Exists.intro [] (Exists.intro (((0:Int), (0:Int)), n1) (And.intro h (And.intro rfl (And.intro rfl (And.intro ff (And.intro rfl (And.intro rfl (And.intro rfl trivial)))))))))) ?_)
  clear h
  refine fun q h => ?_
  obtain ⟨⟨v2_4, v2_11⟩, n1⟩ := q
  obtain ⟨m1, x1, hm1, h, hl1, hr1⟩ := loopN_step h
  replace hm1 : n1 = m1 + 1 := hm1
  subst hm1
  replace h : exact_Squares_l2s p0 v2_4 v2_11 = some x1 := h
  delta exact_Squares_l2s at h
  refine Exists.intro none ?_
  refine And.intro (fun g1 => ?_) (fun g1 => ?_)
  · skip
    replace h := cT g1 h
    refine Exists.intro none ?_
    obtain ⟨x4_0, e4_0, h⟩ := bS h
    refine Exists.intro [.int .i64 x4_0.T, .int .i64 x4_0.V] (And.intro (idx_map enc_api_Item e4_0) ?_)
    refine Exists.intro none ?_
    refine Exists.intro _ (Exists.intro _ (And.intro (Contract.wk (c_num_Mul x4_0.V x4_0.V) (And.intro rfl (And.intro rfl trivial))) (And.intro rfl ?_)))
    refine Exists.intro none ?_
    refine And.intro (fun g2 => ?_) (fun g2 => ?_)
    · skip
      replace h := cT g2 h
      refine Exists.intro none ?_
      replace h := retS h hr1
      subst h
      exact (And.intro rfl (And.intro rfl trivial))
    · skip
      replace h := cF g2 h
      refine Exists.intro none ?_
      refine Exists.intro _ (Exists.intro _ (And.intro (Contract.wk (c_num_Add v2_4 (num_Mul x4_0.V x4_0.V).1) (And.intro rfl (And.intro rfl trivial))) (And.intro rfl ?_)))
      refine Exists.intro none ?_
      refine And.intro (fun g3 => ?_) (fun g3 => ?_)
      · skip
        replace h := cT g3 h
        refine Exists.intro none ?_
        replace h := retS h hr1
        subst h
        exact (And.intro rfl (And.intro rfl trivial))
      · skip
        replace h := cF g3 h
        refine Exists.intro none ?_
        exact Exists.intro [] (Exists.intro [] (Exists.intro (((num_Add v2_4 (num_Mul x4_0.V x4_0.V).1).1, (w64 (v2_11 + (1:Int)))), m1) (And.intro (hl1 ((num_Add v2_4 (num_Mul x4_0.V x4_0.V).1).1, (w64 (v2_11 + (1:Int)))) (Option.some.inj h).symm) (And.intro (Nat.lt_succ_self m1) (And.intro rfl (And.intro rfl (And.intro ff (And.intro rfl (And.intro rfl (And.intro rfl trivial))))))))))
  · skip
    replace h := cF g1 h
    replace h := popS h hr1
    refine Exists.intro none ?_
    replace h := Option.some.inj h
    subst h
    exact (And.intro rfl (And.intro rfl trivial))

theorem c_exact_Count' (p0 : (List api_Item)) (r : Int) (h : exact_Count p0 = r) : Contract Try.prog 31 [.lst 2 false (List.map enc_api_Item p0)] [] (.int .i64 r) [] := by
  refine contract_of_vcs tab_ok orders_ok Try.func31 Try.call31 (by kernel_rfl) 0 rfl rfl _ rfl ?_
  delta exact_Count at h
  refine Exists.intro none ?_
  refine Exists.intro none ?_
  refine Exists.intro [.int .i64 (p0.length : Int)] (And.intro (lenS enc_api_Item p0) ?_)
  subst h
  exact (And.intro rfl trivial)
theorem c_exact_Count (p0 : (List api_Item)) : Contract Try.prog 31 [.lst 2 false (List.map enc_api_Item p0)] [] (.int .i64 (exact_Count p0)) [] := c_exact_Count' p0 (exact_Count p0) rfl

theorem c_law08_awake (r : Bool) (h : law08_awake = some r) : Contract Try.prog 9 [] [] (.sb r) [] := by
  refine contract_of_vcs tab_ok orders_ok Try.func9 Try.call9 (by kernel_rfl) 0 rfl rfl _ rfl ?_
  delta law08_awake at h
  refine Exists.intro none ?_
  refine Exists.intro none ?_
  refine Exists.intro none ?_
  obtain ⟨y2_1, e2_1, h⟩ := bS h
  refine Exists.intro _ (Exists.intro _ (And.intro (Contract.wk (c_exact_Squares [(api_Item.mk (0:Int) (2:Int)), (api_Item.mk (1:Int) (4:Int)), (api_Item.mk (1:Int) (9:Int))] y2_1 e2_1) (And.intro ff (And.intro (by first | rfl | (simp only [List.map_append, List.map_cons, List.map_nil, List.map_take, List.map_drop, List.map_set, List.map_replicate]; done) | (simp only [List.map_append, List.map_cons, List.map_nil, List.map_take, List.map_drop, List.map_set, List.map_replicate]; rfl) | (simp only [List.map_append, List.map_cons, List.map_nil, List.map_take, List.map_drop, List.map_set, List.map_replicate, eL, enc_api_Command, enc_tape_Tape, enc_ref27_Cursor, enc_api_Answer, enc_api_Reply]; done) | (simp only [List.map_append, List.map_cons, List.map_nil, List.map_take, List.map_drop, List.map_set, List.map_replicate, eL, enc_api_Command, enc_tape_Tape, enc_ref27_Cursor, enc_api_Answer, enc_api_Reply]; rfl)) trivial))) (And.intro rfl ?_)))
  refine Exists.intro none ?_
  refine Exists.intro none ?_
  refine And.intro (fun g1 => ?_) (fun g1 => ?_)
  · skip
    refine And.intro (fun g2 => ?_) (fun g2 => ?_)
    · skip
      refine Exists.intro _ (Exists.intro _ (And.intro (Contract.wk (c_exact_Count [(api_Item.mk (0:Int) (2:Int)), (api_Item.mk (1:Int) (4:Int)), (api_Item.mk (1:Int) (9:Int))]) (And.intro ff (And.intro (by first | rfl | (simp only [List.map_append, List.map_cons, List.map_nil, List.map_take, List.map_drop, List.map_set, List.map_replicate]; done) | (simp only [List.map_append, List.map_cons, List.map_nil, List.map_take, List.map_drop, List.map_set, List.map_replicate]; rfl) | (simp only [List.map_append, List.map_cons, List.map_nil, List.map_take, List.map_drop, List.map_set, List.map_replicate, eL, enc_api_Command, enc_tape_Tape, enc_ref27_Cursor, enc_api_Answer, enc_api_Reply]; done) | (simp only [List.map_append, List.map_cons, List.map_nil, List.map_take, List.map_drop, List.map_set, List.map_replicate, eL, enc_api_Command, enc_tape_Tape, enc_ref27_Cursor, enc_api_Answer, enc_api_Reply]; rfl)) trivial))) (And.intro rfl ?_)))
      replace h := Option.some.inj h
      subst h
      exact (And.intro (Eq.symm (aR (aR g1 g2) rfl)) trivial)
    · skip
      replace h := Option.some.inj h
      subst h
      exact (And.intro (Eq.symm (aL (aR g1 g2))) trivial)
  · skip
    replace h := Option.some.inj h
    subst h
    exact (And.intro (Eq.symm (aL (aL g1))) trivial)

theorem c_exact_tick' (p0 : Int) (r : Bool) (h : exact_tick p0 = r) : Contract Try.prog 32 [.int .i64 p0] [] (.sb r) [] := by
  refine contract_of_vcs tab_ok orders_ok Try.func32 Try.call32 (by kernel_rfl) 0 rfl rfl _ rfl ?_
  delta exact_tick at h
  refine Exists.intro none ?_
  refine Exists.intro none ?_
  refine Exists.intro none ?_
  refine And.intro (fun g1 => ?_) (fun g1 => ?_)
  · skip
    subst h
    exact (And.intro (Eq.symm (aR g1 rfl)) trivial)
  · skip
    subst h
    exact (And.intro (Eq.symm (aL g1)) trivial)
theorem c_exact_tick (p0 : Int) : Contract Try.prog 32 [.int .i64 p0] [] (.sb (exact_tick p0)) [] := c_exact_tick' p0 (exact_tick p0) rfl

theorem c_wide_Of' (p0 : Int) (r : api_Wide) (h : wide_Of p0 = r) : Contract Try.prog 34 [.int .u64 p0] [] (.agg [.int .u64 r.Hi, .int .u64 r.Lo]) [] := by
  refine contract_of_vcs tab_ok orders_ok Try.func34 Try.call34 (by kernel_rfl) 0 rfl rfl _ rfl ?_
  delta wide_Of at h
  refine Exists.intro none ?_
  refine Exists.intro none ?_
  subst h
  exact (And.intro rfl (And.intro rfl trivial))
theorem c_wide_Of (p0 : Int) : Contract Try.prog 34 [.int .u64 p0] [] (.agg [.int .u64 (wide_Of p0).Hi, .int .u64 (wide_Of p0).Lo]) [] := c_wide_Of' p0 (wide_Of p0) rfl

theorem c_wide_zero' (p0 : api_Wide) (r : Bool) (h : wide_zero p0 = r) : Contract Try.prog 67 [.agg [.int .u64 p0.Hi, .int .u64 p0.Lo]] [] (.sb r) [] := by
  refine contract_of_vcs tab_ok orders_ok Try.func67 Try.call67 (by kernel_rfl) 0 rfl rfl _ rfl ?_
  delta wide_zero at h
  refine Exists.intro none ?_
  refine Exists.intro none ?_
  refine Exists.intro none ?_
  refine And.intro (fun g1 => ?_) (fun g1 => ?_)
  · skip
    subst h
    exact (And.intro (Eq.symm (aR g1 rfl)) trivial)
  · skip
    subst h
    exact (And.intro (Eq.symm (aL g1)) trivial)
theorem c_wide_zero (p0 : api_Wide) : Contract Try.prog 67 [.agg [.int .u64 p0.Hi, .int .u64 p0.Lo]] [] (.sb (wide_zero p0)) [] := c_wide_zero' p0 (wide_zero p0) rfl

theorem c_math_bits_Len64 (p0 : Int) (r : Int) (h : math_bits_Len64 p0 = some r) : Contract Try.prog 97 [.int .u64 p0] [] (.int .i64 r) [] := by
  unfold math_bits_Len64 at h
  obtain ⟨k, h⟩ := ckS h
  obtain ⟨k1, k2⟩ := of_decide_eq_true k
  cases h
  exact calls_contract1 Try.call97 fun w => walk_Len64 p0 w k1 k2

theorem c_wide_Bits (p0 : api_Wide) (r : Int) (h : wide_Bits p0 = some r) : Contract Try.prog 68 [.agg [.int .u64 p0.Hi, .int .u64 p0.Lo]] [] (.int .i64 r) [] := by
  refine contract_of_vcs tab_ok orders_ok Try.func68 Try.call68 (by kernel_rfl) 0 rfl rfl _ rfl ?_
  delta wide_Bits at h
  refine Exists.intro none ?_
  refine Exists.intro none ?_
  refine And.intro (fun g1 => ?_) (fun g1 => ?_)
  · skip
    replace h := cT g1 h
    refine Exists.intro none ?_
    obtain ⟨y2_2, e2_2, h⟩ := bS h
    refine Exists.intro _ (Exists.intro _ (And.intro (Contract.wk (c_math_bits_Len64 p0.Hi y2_2 e2_2) (And.intro rfl trivial)) (And.intro rfl ?_)))
    replace h := Option.some.inj h
    subst h
    exact (And.intro rfl trivial)
  · skip
    replace h := cF g1 h
    refine Exists.intro none ?_
    obtain ⟨y3_2, e3_2, h⟩ := bS h
    refine Exists.intro _ (Exists.intro _ (And.intro (Contract.wk (c_math_bits_Len64 p0.Lo y3_2 e3_2) (And.intro rfl trivial)) (And.intro rfl ?_)))
    replace h := Option.some.inj h
    subst h
    exact (And.intro rfl trivial)

theorem c_wide_Left (p0 : api_Wide) (p1 : Int) (r : (api_Wide × Bool)) (h : wide_Left p0 p1 = some r) : Contract Try.prog 33 [.agg [.int .u64 p0.Hi, .int .u64 p0.Lo], .int .i64 p1] [] (.tup [.agg [.int .u64 r.1.Hi, .int .u64 r.1.Lo], .sb r.2]) [] := by
  refine contract_of_vcs tab_ok orders_ok Try.func33 Try.call33 (by kernel_rfl) 0 rfl rfl _ rfl ?_
  delta wide_Left at h
  refine Exists.intro none ?_
  refine Exists.intro none ?_
  refine And.intro (fun g1 => ?_) (fun g1 => ?_)
  · skip
    replace h := cT g1 h
    refine Exists.intro none ?_
    replace h := Option.some.inj h
    subst h
    exact (And.intro rfl (And.intro rfl (And.intro rfl trivial)))
  · skip
    replace h := cF g1 h
    refine Exists.intro none ?_
    refine Exists.intro _ (Exists.intro _ (And.intro (Contract.wk (c_wide_zero p0) (And.intro rfl (And.intro rfl trivial))) (And.intro rfl ?_)))
    refine And.intro (fun g2 => ?_) (fun g2 => ?_)
    · skip
      replace h := cT g2 h
      refine Exists.intro none ?_
      replace h := Option.some.inj h
      subst h
      exact (And.intro rfl (And.intro rfl (And.intro rfl trivial)))
    · skip
      replace h := cF g2 h
      refine Exists.intro none ?_
      obtain ⟨y5_2, e5_2, h⟩ := bS h
      refine Exists.intro _ (Exists.intro _ (And.intro (Contract.wk (c_wide_Bits p0 y5_2 e5_2) (And.intro rfl (And.intro rfl trivial))) (And.intro rfl ?_)))
      refine And.intro (fun g3 => ?_) (fun g3 => ?_)
      · skip
        replace h := cT g3 h
        refine Exists.intro none ?_
        replace h := Option.some.inj h
        subst h
        exact (And.intro rfl (And.intro rfl (And.intro rfl trivial)))
      · skip
        replace h := cF g3 h
        refine Exists.intro none ?_
        refine And.intro (fun g4 => ?_) (fun g4 => ?_)
        · skip
          replace h := cT g4 h
          refine Exists.intro none ?_
          obtain ⟨k8_5, h⟩ := ckS h
          refine And.intro (of_decide_eq_true k8_5) ?_
          replace h := Option.some.inj h
          subst h
          exact (And.intro rfl (And.intro rfl (And.intro rfl trivial)))
        · skip
          replace h := cF g4 h
          refine Exists.intro none ?_
          obtain ⟨k9_4, h⟩ := ckS h
          obtain ⟨k9_10, h⟩ := ckS h
          obtain ⟨k9_16, h⟩ := ckS h
          refine And.intro (of_decide_eq_true k9_4) ?_
          refine And.intro (of_decide_eq_true k9_10) ?_
          refine And.intro (of_decide_eq_true k9_16) ?_
          replace h := Option.some.inj h
          subst h
          exact (And.intro rfl (And.intro rfl (And.intro rfl trivial)))

theorem c_math_bits_Add64 (p0 p1 p2 : Int) (r : (Int × Int)) (h : math_bits_Add64 p0 p1 p2 = some r) : Contract Try.prog 69 [.int .u64 p0, .int .u64 p1, .int .u64 p2] [] (.tup [.int .u64 r.1, .int .u64 r.2]) [] :=
  ext_Add64 Try.func69 (by kernel_rfl) (by kernel_rfl) (by kernel_rfl) (by kernel_rfl) p0 p1 p2 r h

theorem c_wide_Add (p0 : api_Wide) (p1 : api_Wide) (r : (api_Wide × Bool)) (h : wide_Add p0 p1 = some r) : Contract Try.prog 35 [.agg [.int .u64 p0.Hi, .int .u64 p0.Lo], .agg [.int .u64 p1.Hi, .int .u64 p1.Lo]] [] (.tup [.agg [.int .u64 r.1.Hi, .int .u64 r.1.Lo], .sb r.2]) [] := by
  refine contract_of_vcs tab_ok orders_ok Try.func35 Try.call35 (by kernel_rfl) 0 rfl rfl _ rfl ?_
  delta wide_Add at h
  refine Exists.intro none ?_
  refine Exists.intro none ?_
  obtain ⟨y1_4, e1_4, h⟩ := bS h
  refine Exists.intro _ (Exists.intro _ (And.intro (Contract.wk (c_math_bits_Add64 p0.Lo p1.Lo (0:Int) y1_4 e1_4) (And.intro rfl (And.intro rfl (And.intro rfl trivial)))) (And.intro rfl ?_)))
  refine Exists.intro none ?_
  obtain ⟨y2_5, e2_5, h⟩ := bS h
  refine Exists.intro _ (Exists.intro _ (And.intro (Contract.wk (c_math_bits_Add64 p0.Hi p1.Hi y1_4.2 y2_5 e2_5) (And.intro rfl (And.intro rfl (And.intro rfl trivial)))) (And.intro rfl ?_)))
  refine Exists.intro none ?_
  refine And.intro (fun g1 => ?_) (fun g1 => ?_)
  · skip
    replace h := cT g1 h
    refine Exists.intro none ?_
    replace h := Option.some.inj h
    subst h
    exact (And.intro rfl (And.intro rfl (And.intro rfl trivial)))
  · skip
    replace h := cF g1 h
    refine Exists.intro none ?_
    replace h := Option.some.inj h
    subst h
    exact (And.intro rfl (And.intro rfl (And.intro rfl trivial)))

theorem c_exact_Halve (p0 : (List api_Item)) (p1 : Int) (p2 : Int) (r : (api_Fraction × Bool)) (h : exact_Halve p0 p1 p2 = some r) : Contract Try.prog 10 [.lst 2 false (List.map enc_api_Item p0), .int .i64 p1, .int .i64 p2] [] (.tup [.agg [.int .u64 r.1.Num.Hi, .int .u64 r.1.Num.Lo, .int .u64 r.1.Den.Hi, .int .u64 r.1.Den.Lo], .sb r.2]) [] := by
  refine contract_of_vcs tab_ok orders_ok Try.func10 Try.call10 (by kernel_rfl) 0 rfl rfl _ rfl ?_
  delta exact_Halve at h
  refine Exists.intro none ?_
  refine Exists.intro none ?_
  refine Exists.intro none ?_
  refine Exists.intro _ (Exists.intro _ (And.intro (Contract.wk (c_exact_tick p1) (And.intro rfl trivial)) (And.intro rfl ?_)))
  refine And.intro (fun g1 => ?_) (fun g1 => ?_)
  · skip
    refine And.intro (fun g2 => ?_) (fun g2 => ?_)
    · skip
      refine And.intro (fun g3 => ?_) (fun g3 => ?_)
      · skip
        replace h := cT (oR (oR g1 g2) g3) h
        refine Exists.intro none ?_
        replace h := Option.some.inj h
        subst h
        exact (And.intro rfl (And.intro rfl (And.intro rfl (And.intro rfl (And.intro rfl trivial)))))
      · skip
        replace h := cF (oR (oR g1 g2) g3) h
        refine Exists.intro none ?_
        refine Exists.intro none ?_
        refine Exists.intro [.int .i64 (p0.length : Int)] (And.intro (lenS enc_api_Item p0) ?_)
        replace h : exact_Halve_l3 p0 p1 p2 (0:Int) = some r := h
        delta exact_Halve_l3 at h
        obtain ⟨n1, h⟩ := loopS h
        refine Exists.intro ⟨Int × Nat, fun q => [(.tmp 0, .av (.lst 2 false (List.map enc_api_Item p0))), (.tmp 1, .av (.int .i64 p1)), (.tmp 2, .av (.int .i64 p2)), (.tmp 6, .av (.ptr 0 0)), (.tmp 8, .av (.ptr 512 0)), (.tmp 30, .av (.lst 2 false (List.map enc_api_Item p0))), (.tmp 31, .av (.int .i64 (p0.length : Int))), (.tmp 32, .av (.int .i64 q.1)), (.box 0, .box [.int .u64 (0:Int), .int .u64 (0:Int), .int .u64 (0:Int), .int .u64 (0:Int)]), (.box 512, .box [.int .u64 (0:Int), .int .u64 (0:Int)])], fun q => loopN (fun (s : Int) => exact_Halve_l3s p0 p1 p2 s) q.2 q.1 = some r, fun q => q.2⟩ (And.intro (Exists.intro [] (Exists.intro [] (Exists.intro ((0:Int), n1) (And.intro h (And.intro rfl (And.intro ff (And.intro rfl (And.intro rfl (And.intro rfl (And.intro ff (And.intro rfl (And.intro rfl (And.intro rfl (And.intro rfl (And.intro rfl (And.intro rfl (And.intro rfl (And.intro rfl (And.intro rfl trivial))))))))))))))))))) ?_)
        clear h
        refine fun q h => ?_
        obtain ⟨v3_32, n1⟩ := q
        obtain ⟨m1, x1, hm1, h, hl1, hr1⟩ := loopN_step h
        replace hm1 : n1 = m1 + 1 := hm1
        subst hm1
        replace h : exact_Halve_l3s p0 p1 p2 v3_32 = some x1 := h
        delta exact_Halve_l3s at h
        refine Exists.intro none ?_
        refine And.intro (fun g4 => ?_) (fun g4 => ?_)
        · skip
          replace h := cT g4 h
          refine Exists.intro none ?_
          obtain ⟨x6_0, e6_0, h⟩ := bS h
          refine Exists.intro [.int .i64 x6_0.T, .int .i64 x6_0.V] (And.intro (idx_map enc_api_Item e6_0) ?_)
          refine Exists.intro none ?_
          refine Exists.intro none ?_
          refine And.intro (fun g5 => ?_) (fun g5 => ?_)
          · skip
            refine And.intro (fun g6 => ?_) (fun g6 => ?_)
            · skip
              refine And.intro (fun g7 => ?_) (fun g7 => ?_)
              · skip
                replace h := cT (oR (oR g5 g6) g7) h
                refine Exists.intro none ?_
                replace h := retS h hr1
                subst h
                exact (And.intro rfl (And.intro rfl (And.intro rfl (And.intro rfl (And.intro rfl trivial)))))
              · skip
                replace h := cF (oR (oR g5 g6) g7) h
                refine Exists.intro none ?_
                exact Exists.intro [] (Exists.intro [] (Exists.intro ((w64 (v3_32 + (1:Int))), m1) (And.intro (hl1 (w64 (v3_32 + (1:Int))) (Option.some.inj h).symm) (And.intro (Nat.lt_succ_self m1) (And.intro rfl (And.intro ff (And.intro rfl (And.intro rfl (And.intro rfl (And.intro ff (And.intro rfl (And.intro rfl (And.intro rfl (And.intro rfl (And.intro rfl (And.intro rfl (And.intro rfl (And.intro rfl (And.intro rfl trivial)))))))))))))))))))
            · skip
              replace h := cT (oL (oR g5 g6)) h
              refine Exists.intro none ?_
              replace h := retS h hr1
              subst h
              exact (And.intro rfl (And.intro rfl (And.intro rfl (And.intro rfl (And.intro rfl trivial)))))
          · skip
            replace h := cT (oL (oL g5)) h
            refine Exists.intro none ?_
            replace h := retS h hr1
            subst h
            exact (And.intro rfl (And.intro rfl (And.intro rfl (And.intro rfl (And.intro rfl trivial)))))
        · skip
          replace h := cF g4 h
          replace h := popS h hr1
          refine Exists.intro none ?_
          refine Exists.intro [.int .i64 (p0.length : Int)] (And.intro (lenS enc_api_Item p0) ?_)
          replace h : exact_Halve_l8 p0 p1 p2 (0:Int) (0:Int) (0:Int) = some r := h
          delta exact_Halve_l8 at h
          obtain ⟨n1, h⟩ := loopS h
          refine Exists.intro ⟨(Int × Int × Int) × Nat, fun q => [(.tmp 1, .av (.int .i64 p1)), (.tmp 2, .av (.int .i64 p2)), (.tmp 6, .av (.ptr 0 0)), (.tmp 8, .av (.ptr 512 0)), (.tmp 52, .av (.lst 2 false (List.map enc_api_Item p0))), (.tmp 53, .av (.int .i64 (p0.length : Int))), (.tmp 54, .av (.int .i64 q.1.1)), (.box 0, .box [.int .u64 (0:Int), .int .u64 (0:Int), .int .u64 (0:Int), .int .u64 (0:Int)]), (.box 512, .box [.int .u64 q.1.2.1, .int .u64 q.1.2.2])], fun q => loopN (fun (s : (Int × Int × Int)) => exact_Halve_l8s p0 p1 p2 s.1 s.2.1 s.2.2) q.2 q.1 = some r, fun q => q.2⟩ (And.intro (Exists.intro [] (Exists.intro [] (Exists.intro (((0:Int), (0:Int), (0:Int)), n1) (And.intro h (And.intro rfl (And.intro rfl (And.intro rfl (And.intro ff (And.intro rfl (And.intro rfl (And.intro rfl (And.intro rfl (And.intro rfl (And.intro rfl (And.intro rfl (And.intro rfl (And.intro rfl trivial))))))))))))))))) ?_)
          clear h
          refine fun q h => ?_
          obtain ⟨⟨v8_54, v8_b3x0_0, v8_b3x0_1⟩, n1⟩ := q
          obtain ⟨m1, x1, hm1, h, hl1, hr1⟩ := loopN_step h
          replace hm1 : n1 = m1 + 1 := hm1
          subst hm1
          replace h : exact_Halve_l8s p0 p1 p2 v8_54 v8_b3x0_0 v8_b3x0_1 = some x1 := h
          delta exact_Halve_l8s at h
          refine Exists.intro none ?_
          refine And.intro (fun g8 => ?_) (fun g8 => ?_)
          · skip
            replace h := cT g8 h
            refine Exists.intro none ?_
            refine Exists.intro none ?_
            obtain ⟨x12_0, e12_0, h⟩ := bS h
            refine Exists.intro [.int .i64 x12_0.T, .int .i64 x12_0.V] (And.intro (idx_map enc_api_Item e12_0) ?_)
            refine Exists.intro none ?_
            refine Exists.intro none ?_
            refine And.intro (fun g9 => ?_) (fun g9 => ?_)
            · skip
              replace h := cT g9 h
              refine Exists.intro none ?_
              exact Exists.intro [] (Exists.intro [] (Exists.intro (((w64 (v8_54 + (1:Int))), v8_b3x0_0, v8_b3x0_1), m1) (And.intro (hl1 ((w64 (v8_54 + (1:Int))), v8_b3x0_0, v8_b3x0_1) (Option.some.inj h).symm) (And.intro (Nat.lt_succ_self m1) (And.intro rfl (And.intro rfl (And.intro rfl (And.intro ff (And.intro rfl (And.intro rfl (And.intro rfl (And.intro rfl (And.intro rfl (And.intro rfl (And.intro rfl (And.intro rfl (And.intro rfl trivial)))))))))))))))))
            · skip
              replace h := cF g9 h
              refine Exists.intro none ?_
              obtain ⟨y15_8, e15_8, h⟩ := bS h
              refine Exists.intro _ (Exists.intro _ (And.intro (Contract.wk (c_wide_Of (wu64 x12_0.V)) (And.intro rfl trivial)) (And.intro rfl ?_)))
              refine Exists.intro _ (Exists.intro _ (And.intro (Contract.wk (c_wide_Left (wide_Of (wu64 x12_0.V)) (w64 ((w64 (p2 - (1:Int))) - (w64 (p1 - x12_0.T)))) y15_8 e15_8) (And.intro rfl (And.intro rfl (And.intro rfl trivial)))) (And.intro rfl ?_)))
              refine Exists.intro none ?_
              refine And.intro (fun g10 => ?_) (fun g10 => ?_)
              · skip
                replace h := cT g10 h
                refine Exists.intro none ?_
                replace h := retS h hr1
                subst h
                exact (And.intro rfl (And.intro rfl (And.intro rfl (And.intro rfl (And.intro rfl trivial)))))
              · skip
                replace h := cF g10 h
                refine Exists.intro none ?_
                obtain ⟨y18_2, e18_2, h⟩ := bS h
                refine Exists.intro _ (Exists.intro _ (And.intro (Contract.wk (c_wide_Add (api_Wide.mk v8_b3x0_0 v8_b3x0_1) y15_8.1 y18_2 e18_2) (And.intro rfl (And.intro rfl (And.intro rfl (And.intro rfl trivial))))) (And.intro rfl ?_)))
                refine Exists.intro none ?_
                refine And.intro (fun g11 => ?_) (fun g11 => ?_)
                · skip
                  replace h := cT g11 h
                  refine Exists.intro none ?_
                  replace h := retS h hr1
                  subst h
                  exact (And.intro rfl (And.intro rfl (And.intro rfl (And.intro rfl (And.intro rfl trivial)))))
                · skip
                  replace h := cF g11 h
                  refine Exists.intro none ?_
                  exact Exists.intro [] (Exists.intro [] (Exists.intro (((w64 (v8_54 + (1:Int))), y18_2.1.Hi, y18_2.1.Lo), m1) (And.intro (hl1 ((w64 (v8_54 + (1:Int))), y18_2.1.Hi, y18_2.1.Lo) (Option.some.inj h).symm) (And.intro (Nat.lt_succ_self m1) (And.intro rfl (And.intro rfl (And.intro rfl (And.intro ff (And.intro rfl (And.intro rfl (And.intro rfl (And.intro rfl (And.intro rfl (And.intro rfl (And.intro rfl (And.intro rfl (And.intro rfl trivial)))))))))))))))))
          · skip
            replace h := cF g8 h
            replace h := popS h hr1
            refine Exists.intro none ?_
            obtain ⟨y22_3, e22_3, h⟩ := bS h
            refine Exists.intro _ (Exists.intro _ (And.intro (Contract.wk (c_wide_Of (1:Int)) (And.intro rfl trivial)) (And.intro rfl ?_)))
            refine Exists.intro _ (Exists.intro _ (And.intro (Contract.wk (c_wide_Left (wide_Of (1:Int)) (w64 (p2 - (1:Int))) y22_3 e22_3) (And.intro rfl (And.intro rfl (And.intro rfl trivial)))) (And.intro rfl ?_)))
            refine Exists.intro none ?_
            refine And.intro (fun g12 => ?_) (fun g12 => ?_)
            · skip
              replace h := cT g12 h
              refine Exists.intro none ?_
              replace h := Option.some.inj h
              subst h
              exact (And.intro rfl (And.intro rfl (And.intro rfl (And.intro rfl (And.intro rfl trivial)))))
            · skip
              replace h := cF g12 h
              refine Exists.intro none ?_
              replace h := Option.some.inj h
              subst h
              exact (And.intro rfl (And.intro rfl (And.intro rfl (And.intro rfl (And.intro rfl trivial)))))
    · skip
      replace h := cT (oL (oR g1 g2)) h
      refine Exists.intro none ?_
      replace h := Option.some.inj h
      subst h
      exact (And.intro rfl (And.intro rfl (And.intro rfl (And.intro rfl (And.intro rfl trivial)))))
  · skip
    replace h := cT (oL (oL g1)) h
    refine Exists.intro none ?_
    replace h := Option.some.inj h
    subst h
    exact (And.intro rfl (And.intro rfl (And.intro rfl (And.intro rfl (And.intro rfl trivial)))))

theorem c_ref06_Tick' (p0 : Int) (r : Bool) (h : ref06_Tick p0 = r) : Contract Try.prog 36 [.int .i64 p0] [] (.sb r) [] := by
  refine contract_of_vcs tab_ok orders_ok Try.func36 Try.call36 (by kernel_rfl) 0 rfl rfl _ rfl ?_
  delta ref06_Tick at h
  refine Exists.intro none ?_
  refine Exists.intro none ?_
  refine Exists.intro none ?_
  refine And.intro (fun g1 => ?_) (fun g1 => ?_)
  · skip
    subst h
    exact (And.intro (Eq.symm (aR g1 rfl)) trivial)
  · skip
    subst h
    exact (And.intro (Eq.symm (aL g1)) trivial)
theorem c_ref06_Tick (p0 : Int) : Contract Try.prog 36 [.int .i64 p0] [] (.sb (ref06_Tick p0)) [] := c_ref06_Tick' p0 (ref06_Tick p0) rfl

theorem c_ref02_Of' (p0 : Int) (r : api_Wide) (h : ref02_Of p0 = r) : Contract Try.prog 38 [.int .u64 p0] [] (.agg [.int .u64 r.Hi, .int .u64 r.Lo]) [] := by
  refine contract_of_vcs tab_ok orders_ok Try.func38 Try.call38 (by kernel_rfl) 0 rfl rfl _ rfl ?_
  delta ref02_Of at h
  refine Exists.intro none ?_
  refine Exists.intro none ?_
  subst h
  exact (And.intro rfl (And.intro rfl trivial))
theorem c_ref02_Of (p0 : Int) : Contract Try.prog 38 [.int .u64 p0] [] (.agg [.int .u64 (ref02_Of p0).Hi, .int .u64 (ref02_Of p0).Lo]) [] := c_ref02_Of' p0 (ref02_Of p0) rfl

theorem c_ref02_double' (p0 : api_Wide) (p1 : Int) (r : (api_Wide × Int)) (h : ref02_double p0 p1 = r) : Contract Try.prog 70 [.agg [.int .u64 p0.Hi, .int .u64 p0.Lo], .int .u64 p1] [] (.tup [.agg [.int .u64 r.1.Hi, .int .u64 r.1.Lo], .int .u64 r.2]) [] := by
  refine contract_of_vcs tab_ok orders_ok Try.func70 Try.call70 (by kernel_rfl) 0 rfl rfl _ rfl ?_
  delta ref02_double at h
  refine Exists.intro none ?_
  refine Exists.intro none ?_
  refine And.intro (by decide) ?_
  refine And.intro (by decide) ?_
  refine And.intro (by decide) ?_
  refine And.intro (by decide) ?_
  subst h
  exact (And.intro rfl (And.intro rfl (And.intro rfl trivial)))
theorem c_ref02_double (p0 : api_Wide) (p1 : Int) : Contract Try.prog 70 [.agg [.int .u64 p0.Hi, .int .u64 p0.Lo], .int .u64 p1] [] (.tup [.agg [.int .u64 (ref02_double p0 p1).1.Hi, .int .u64 (ref02_double p0 p1).1.Lo], .int .u64 (ref02_double p0 p1).2]) [] := c_ref02_double' p0 p1 (ref02_double p0 p1) rfl

theorem c_ref02_Left (p0 : api_Wide) (p1 : Int) (r : (api_Wide × Bool)) (h : ref02_Left p0 p1 = some r) : Contract Try.prog 37 [.agg [.int .u64 p0.Hi, .int .u64 p0.Lo], .int .i64 p1] [] (.tup [.agg [.int .u64 r.1.Hi, .int .u64 r.1.Lo], .sb r.2]) [] := by
  refine contract_of_vcs tab_ok orders_ok Try.func37 Try.call37 (by kernel_rfl) 0 rfl rfl _ rfl ?_
  delta ref02_Left at h
  refine Exists.intro none ?_
  refine Exists.intro none ?_
  refine And.intro (fun g1 => ?_) (fun g1 => ?_)
  · skip
    replace h := cT g1 h
    refine Exists.intro none ?_
    replace h := Option.some.inj h
    subst h
    exact (And.intro rfl (And.intro rfl (And.intro rfl trivial)))
  · skip
    replace h := cF g1 h
    refine Exists.intro none ?_
    refine And.intro (fun g2 => ?_) (fun g2 => ?_)
    · skip
      replace h := cT g2 h
      refine Exists.intro none ?_
      replace h := Option.some.inj h
      subst h
      exact (And.intro rfl (And.intro rfl (And.intro rfl trivial)))
    · skip
      replace h := cF g2 h
      refine Exists.intro none ?_
      replace h : ref02_Left_l4 p1 (0:Int) p0.Hi p0.Lo = some r := h
      delta ref02_Left_l4 at h
      obtain ⟨n1, h⟩ := loopS h
      refine Exists.intro ⟨(Int × Int × Int) × Nat, fun q => [(.tmp 1, .av (.int .i64 p1)), (.tmp 2, .av (.ptr 0 0)), (.tmp 4, .av (.ptr 1 0)), (.tmp 6, .av (.int .i64 q.1.1)), (.box 0, .box [.int .u64 q.1.2.1, .int .u64 q.1.2.2]), (.box 1, .box [.int .u64 (0:Int), .int .u64 (0:Int)])], fun q => loopN (fun (s : (Int × Int × Int)) => ref02_Left_l4s p1 s.1 s.2.1 s.2.2) q.2 q.1 = some r, fun q => q.2⟩ (And.intro (Exists.intro [] (Exists.intro [] (Exists.intro (((0:Int), p0.Hi, p0.Lo), n1) (And.intro h (And.intro rfl (And.intro rfl (And.intro rfl (And.intro rfl (And.intro rfl (And.intro rfl (And.intro rfl trivial))))))))))) ?_)
      clear h
      refine fun q h => ?_
      obtain ⟨⟨v4_6, v4_b0x0_0, v4_b0x0_1⟩, n1⟩ := q
      obtain ⟨m1, x1, hm1, h, hl1, hr1⟩ := loopN_step h
      replace hm1 : n1 = m1 + 1 := hm1
      subst hm1
      replace h : ref02_Left_l4s p1 v4_6 v4_b0x0_0 v4_b0x0_1 = some x1 := h
      delta ref02_Left_l4s at h
      refine Exists.intro none ?_
      refine And.intro (fun g3 => ?_) (fun g3 => ?_)
      · skip
        replace h := cT g3 h
        refine Exists.intro none ?_
        refine Exists.intro none ?_
        refine Exists.intro _ (Exists.intro _ (And.intro (Contract.wk (c_ref02_double (api_Wide.mk v4_b0x0_0 v4_b0x0_1) (0:Int)) (And.intro rfl (And.intro rfl (And.intro rfl trivial)))) (And.intro rfl ?_)))
        refine Exists.intro none ?_
        refine And.intro (fun g4 => ?_) (fun g4 => ?_)
        · skip
          replace h := cT g4 h
          refine Exists.intro none ?_
          replace h := retS h hr1
          subst h
          exact (And.intro rfl (And.intro rfl (And.intro rfl trivial)))
        · skip
          replace h := cF g4 h
          refine Exists.intro none ?_
          exact Exists.intro [] (Exists.intro [] (Exists.intro (((w64 (v4_6 + (1:Int))), (ref02_double (api_Wide.mk v4_b0x0_0 v4_b0x0_1) (0:Int)).1.Hi, (ref02_double (api_Wide.mk v4_b0x0_0 v4_b0x0_1) (0:Int)).1.Lo), m1) (And.intro (hl1 ((w64 (v4_6 + (1:Int))), (ref02_double (api_Wide.mk v4_b0x0_0 v4_b0x0_1) (0:Int)).1.Hi, (ref02_double (api_Wide.mk v4_b0x0_0 v4_b0x0_1) (0:Int)).1.Lo) (Option.some.inj h).symm) (And.intro (Nat.lt_succ_self m1) (And.intro rfl (And.intro rfl (And.intro rfl (And.intro rfl (And.intro rfl (And.intro rfl (And.intro rfl trivial)))))))))))
      · skip
        replace h := cF g3 h
        replace h := popS h hr1
        refine Exists.intro none ?_
        replace h := Option.some.inj h
        subst h
        exact (And.intro rfl (And.intro rfl (And.intro rfl trivial)))

theorem c_ref02_Add (p0 : api_Wide) (p1 : api_Wide) (r : (api_Wide × Bool)) (h : ref02_Add p0 p1 = some r) : Contract Try.prog 39 [.agg [.int .u64 p0.Hi, .int .u64 p0.Lo], .agg [.int .u64 p1.Hi, .int .u64 p1.Lo]] [] (.tup [.agg [.int .u64 r.1.Hi, .int .u64 r.1.Lo], .sb r.2]) [] := by
  refine contract_of_vcs tab_ok orders_ok Try.func39 Try.call39 (by kernel_rfl) 0 rfl rfl _ rfl ?_
  delta ref02_Add at h
  refine Exists.intro none ?_
  refine Exists.intro none ?_
  obtain ⟨y1_4, e1_4, h⟩ := bS h
  refine Exists.intro _ (Exists.intro _ (And.intro (Contract.wk (c_math_bits_Add64 p0.Lo p1.Lo (0:Int) y1_4 e1_4) (And.intro rfl (And.intro rfl (And.intro rfl trivial)))) (And.intro rfl ?_)))
  refine Exists.intro none ?_
  obtain ⟨y2_5, e2_5, h⟩ := bS h
  refine Exists.intro _ (Exists.intro _ (And.intro (Contract.wk (c_math_bits_Add64 p0.Hi p1.Hi y1_4.2 y2_5 e2_5) (And.intro rfl (And.intro rfl (And.intro rfl trivial)))) (And.intro rfl ?_)))
  refine Exists.intro none ?_
  refine And.intro (fun g1 => ?_) (fun g1 => ?_)
  · skip
    replace h := cT g1 h
    refine Exists.intro none ?_
    replace h := Option.some.inj h
    subst h
    exact (And.intro rfl (And.intro rfl (And.intro rfl trivial)))
  · skip
    replace h := cF g1 h
    refine Exists.intro none ?_
    replace h := Option.some.inj h
    subst h
    exact (And.intro rfl (And.intro rfl (And.intro rfl trivial)))

theorem c_ref08_Halve (p0 : (List api_Item)) (p1 : Int) (p2 : Int) (r : (api_Fraction × Bool)) (h : ref08_Halve p0 p1 p2 = some r) : Contract Try.prog 11 [.lst 2 false (List.map enc_api_Item p0), .int .i64 p1, .int .i64 p2] [] (.tup [.agg [.int .u64 r.1.Num.Hi, .int .u64 r.1.Num.Lo, .int .u64 r.1.Den.Hi, .int .u64 r.1.Den.Lo], .sb r.2]) [] := by
  refine contract_of_vcs tab_ok orders_ok Try.func11 Try.call11 (by kernel_rfl) 0 rfl rfl _ rfl ?_
  delta ref08_Halve at h
  refine Exists.intro none ?_
  refine Exists.intro none ?_
  refine Exists.intro none ?_
  refine Exists.intro _ (Exists.intro _ (And.intro (Contract.wk (c_ref06_Tick p1) (And.intro rfl trivial)) (And.intro rfl ?_)))
  refine And.intro (fun g1 => ?_) (fun g1 => ?_)
  · skip
    refine And.intro (fun g2 => ?_) (fun g2 => ?_)
    · skip
      refine And.intro (fun g3 => ?_) (fun g3 => ?_)
      · skip
        replace h := cT (oR (oR g1 g2) g3) h
        refine Exists.intro none ?_
        replace h := Option.some.inj h
        subst h
        exact (And.intro rfl (And.intro rfl (And.intro rfl (And.intro rfl (And.intro rfl trivial)))))
      · skip
        replace h := cF (oR (oR g1 g2) g3) h
        refine Exists.intro none ?_
        obtain ⟨y3_3, e3_3, h⟩ := bS h
        refine Exists.intro _ (Exists.intro _ (And.intro (Contract.wk (c_ref02_Of (1:Int)) (And.intro rfl trivial)) (And.intro rfl ?_)))
        refine Exists.intro _ (Exists.intro _ (And.intro (Contract.wk (c_ref02_Left (ref02_Of (1:Int)) (w64 (p2 - (1:Int))) y3_3 e3_3) (And.intro rfl (And.intro rfl (And.intro rfl trivial)))) (And.intro rfl ?_)))
        refine Exists.intro none ?_
        refine Exists.intro none ?_
        refine Exists.intro [.int .i64 (p0.length : Int)] (And.intro (lenS enc_api_Item p0) ?_)
        replace h : ref08_Halve_l3 p0 p1 p2 y3_3 (0:Int) (0:Int) (0:Int) = some r := h
        delta ref08_Halve_l3 at h
        obtain ⟨n1, h⟩ := loopS h
        refine Exists.intro ⟨(Int × Int × Int) × Nat, fun q => [(.tmp 1, .av (.int .i64 p1)), (.tmp 2, .av (.int .i64 p2)), (.tmp 6, .av (.ptr 0 0)), (.tmp 10, .av (.ptr 770 0)), (.tmp 36, .av (.lst 2 false (List.map enc_api_Item p0))), (.tmp 37, .av (.int .i64 (p0.length : Int))), (.tmp 38, .av (.int .i64 q.1.1)), (.box 0, .box [.int .u64 (0:Int), .int .u64 (0:Int), .int .u64 (0:Int), .int .u64 (0:Int)]), (.box 770, .box [.int .u64 q.1.2.1, .int .u64 q.1.2.2, .int .u64 y3_3.1.Hi, .int .u64 y3_3.1.Lo])], fun q => loopN (fun (s : (Int × Int × Int)) => ref08_Halve_l3s p0 p1 p2 y3_3 s.1 s.2.1 s.2.2) q.2 q.1 = some r, fun q => q.2⟩ (And.intro (Exists.intro [] (Exists.intro [] (Exists.intro (((0:Int), (0:Int), (0:Int)), n1) (And.intro h (And.intro rfl (And.intro rfl (And.intro rfl (And.intro ff (And.intro rfl (And.intro rfl (And.intro rfl (And.intro rfl (And.intro rfl (And.intro rfl (And.intro rfl (And.intro rfl (And.intro rfl (And.intro rfl (And.intro rfl trivial))))))))))))))))))) ?_)
        clear h
        refine fun q h => ?_
        obtain ⟨⟨v3_38, v3_b4x2_0, v3_b4x2_1⟩, n1⟩ := q
        obtain ⟨m1, x1, hm1, h, hl1, hr1⟩ := loopN_step h
        replace hm1 : n1 = m1 + 1 := hm1
        subst hm1
        replace h : ref08_Halve_l3s p0 p1 p2 y3_3 v3_38 v3_b4x2_0 v3_b4x2_1 = some x1 := h
        delta ref08_Halve_l3s at h
        refine Exists.intro none ?_
        refine And.intro (fun g4 => ?_) (fun g4 => ?_)
        · skip
          replace h := cT g4 h
          refine Exists.intro none ?_
          refine Exists.intro none ?_
          obtain ⟨x7_0, e7_0, h⟩ := bS h
          refine Exists.intro [.int .i64 x7_0.T, .int .i64 x7_0.V] (And.intro (idx_map enc_api_Item e7_0) ?_)
          refine Exists.intro none ?_
          refine Exists.intro none ?_
          refine And.intro (fun g5 => ?_) (fun g5 => ?_)
          · skip
            refine And.intro (fun g6 => ?_) (fun g6 => ?_)
            · skip
              refine And.intro (fun g7 => ?_) (fun g7 => ?_)
              · skip
                replace h := cT (oR (oR g5 g6) g7) h
                refine Exists.intro none ?_
                replace h := retS h hr1
                subst h
                exact (And.intro rfl (And.intro rfl (And.intro rfl (And.intro rfl (And.intro rfl trivial)))))
              · skip
                replace h := cF (oR (oR g5 g6) g7) h
                refine Exists.intro none ?_
                refine And.intro (fun g8 => ?_) (fun g8 => ?_)
                · skip
                  replace h := cT g8 h
                  refine Exists.intro none ?_
                  exact Exists.intro [] (Exists.intro [] (Exists.intro (((w64 (v3_38 + (1:Int))), v3_b4x2_0, v3_b4x2_1), m1) (And.intro (hl1 ((w64 (v3_38 + (1:Int))), v3_b4x2_0, v3_b4x2_1) (Option.some.inj h).symm) (And.intro (Nat.lt_succ_self m1) (And.intro rfl (And.intro rfl (And.intro rfl (And.intro ff (And.intro rfl (And.intro rfl (And.intro rfl (And.intro rfl (And.intro rfl (And.intro rfl (And.intro rfl (And.intro rfl (And.intro rfl (And.intro rfl (And.intro rfl trivial)))))))))))))))))))
                · skip
                  replace h := cF g8 h
                  refine Exists.intro none ?_
                  obtain ⟨y11_11, e11_11, h⟩ := bS h
                  refine Exists.intro _ (Exists.intro _ (And.intro (Contract.wk (c_ref02_Of (wu64 x7_0.V)) (And.intro rfl trivial)) (And.intro rfl ?_)))
                  refine Exists.intro _ (Exists.intro _ (And.intro (Contract.wk (c_ref02_Left (ref02_Of (wu64 x7_0.V)) (w64 ((w64 (p2 - (1:Int))) - (w64 (p1 - x7_0.T)))) y11_11 e11_11) (And.intro rfl (And.intro rfl (And.intro rfl trivial)))) (And.intro rfl ?_)))
                  refine Exists.intro none ?_
                  refine And.intro (fun g9 => ?_) (fun g9 => ?_)
                  · skip
                    replace h := cT g9 h
                    refine Exists.intro none ?_
                    replace h := retS h hr1
                    subst h
                    exact (And.intro rfl (And.intro rfl (And.intro rfl (And.intro rfl (And.intro rfl trivial)))))
                  · skip
                    replace h := cF g9 h
                    refine Exists.intro none ?_
                    obtain ⟨y14_3, e14_3, h⟩ := bS h
                    refine Exists.intro _ (Exists.intro _ (And.intro (Contract.wk (c_ref02_Add (api_Wide.mk v3_b4x2_0 v3_b4x2_1) y11_11.1 y14_3 e14_3) (And.intro rfl (And.intro rfl (And.intro rfl (And.intro rfl trivial))))) (And.intro rfl ?_)))
                    refine Exists.intro none ?_
                    refine And.intro (fun g10 => ?_) (fun g10 => ?_)
                    · skip
                      replace h := cT g10 h
                      refine Exists.intro none ?_
                      replace h := retS h hr1
                      subst h
                      exact (And.intro rfl (And.intro rfl (And.intro rfl (And.intro rfl (And.intro rfl trivial)))))
                    · skip
                      replace h := cF g10 h
                      refine Exists.intro none ?_
                      exact Exists.intro [] (Exists.intro [] (Exists.intro (((w64 (v3_38 + (1:Int))), y14_3.1.Hi, y14_3.1.Lo), m1) (And.intro (hl1 ((w64 (v3_38 + (1:Int))), y14_3.1.Hi, y14_3.1.Lo) (Option.some.inj h).symm) (And.intro (Nat.lt_succ_self m1) (And.intro rfl (And.intro rfl (And.intro rfl (And.intro ff (And.intro rfl (And.intro rfl (And.intro rfl (And.intro rfl (And.intro rfl (And.intro rfl (And.intro rfl (And.intro rfl (And.intro rfl (And.intro rfl (And.intro rfl trivial)))))))))))))))))))
            · skip
              replace h := cT (oL (oR g5 g6)) h
              refine Exists.intro none ?_
              replace h := retS h hr1
              subst h
              exact (And.intro rfl (And.intro rfl (And.intro rfl (And.intro rfl (And.intro rfl trivial)))))
          · skip
            replace h := cT (oL (oL g5)) h
            refine Exists.intro none ?_
            replace h := retS h hr1
            subst h
            exact (And.intro rfl (And.intro rfl (And.intro rfl (And.intro rfl (And.intro rfl trivial)))))
        · skip
          replace h := cF g4 h
          replace h := popS h hr1
          refine Exists.intro none ?_
          replace h := Option.some.inj h
          subst h
          exact (And.intro rfl (And.intro rfl (And.intro rfl (And.intro rfl (And.intro rfl trivial)))))
    · skip
      replace h := cT (oL (oR g1 g2)) h
      refine Exists.intro none ?_
      replace h := Option.some.inj h
      subst h
      exact (And.intro rfl (And.intro rfl (And.intro rfl (And.intro rfl (And.intro rfl trivial)))))
  · skip
    replace h := cT (oL (oL g1)) h
    refine Exists.intro none ?_
    replace h := Option.some.inj h
    subst h
    exact (And.intro rfl (And.intro rfl (And.intro rfl (And.intro rfl (And.intro rfl trivial)))))

theorem c_law08_ExactHalves (p0 : (List api_Item)) (p1 : Int) (p2 : Int) (r : Bool) (h : law08_ExactHalves p0 p1 p2 = some r) : Contract Try.prog 3 [.lst 2 false (List.map enc_api_Item p0), .int .i64 p1, .int .i64 p2] [] (.sb r) [] := by
  refine contract_of_vcs tab_ok orders_ok Try.func3 Try.call3 (by kernel_rfl) 0 rfl rfl _ rfl ?_
  delta law08_ExactHalves at h
  refine Exists.intro none ?_
  refine Exists.intro none ?_
  refine Exists.intro [.int .i64 (p0.length : Int)] (And.intro (lenS enc_api_Item p0) ?_)
  refine And.intro (fun g1 => ?_) (fun g1 => ?_)
  · skip
    replace h := cT g1 h
    refine Exists.intro none ?_
    obtain ⟨y2_0, e2_0, h⟩ := bS h
    refine Exists.intro _ (Exists.intro _ (And.intro (Contract.wk (c_law08_awake y2_0 e2_0) trivial) (And.intro rfl ?_)))
    replace h := Option.some.inj h
    subst h
    exact (And.intro rfl trivial)
  · skip
    replace h := cF g1 h
    refine Exists.intro none ?_
    obtain ⟨y3_3, e3_3, h⟩ := bS h
    refine Exists.intro _ (Exists.intro _ (And.intro (Contract.wk (c_exact_Halve p0 p1 p2 y3_3 e3_3) (And.intro ff (And.intro rfl (And.intro rfl (And.intro rfl trivial))))) (And.intro rfl ?_)))
    refine Exists.intro none ?_
    obtain ⟨y4_3, e4_3, h⟩ := bS h
    refine Exists.intro _ (Exists.intro _ (And.intro (Contract.wk (c_ref08_Halve p0 p1 p2 y4_3 e4_3) (And.intro ff (And.intro rfl (And.intro rfl (And.intro rfl trivial))))) (And.intro rfl ?_)))
    refine Exists.intro none ?_
    obtain ⟨y5_9, e5_9, h⟩ := bS h
    refine Exists.intro none ?_
    refine And.intro (fun g2 => ?_) (fun g2 => ?_)
    · skip
      refine And.intro (fun g3 => ?_) (fun g3 => ?_)
      · skip
        refine Exists.intro _ (Exists.intro _ (And.intro (Contract.wk (c_law08_awake y5_9 (gdT (aR g2 g3) e5_9)) trivial) (And.intro rfl ?_)))
        replace h := Option.some.inj h
        subst h
        exact (And.intro (Eq.symm (aR (aR g2 g3) rfl)) trivial)
      · skip
        replace h := Option.some.inj h
        subst h
        exact (And.intro (Eq.symm (aL (aR g2 g3))) trivial)
    · skip
      replace h := Option.some.inj h
      subst h
      exact (And.intro (Eq.symm (aL (aL g2))) trivial)

end Go.Proofs.Ytkdlfgjiinlkdaa
