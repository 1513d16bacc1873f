/- The contracts: each function of the program does what its function on plain data says. Made by program. -/
import Derived.Test.YtkdlfgjiinlkdaaTab
import Derived.Test.YtkdlfgjiinlkdaaWin
import Derived.Test.YtkdlfgjiinlkdaaWalk
set_option linter.unusedVariables false
set_option linter.unusedSimpArgs false
set_option linter.unnecessarySimpa false
set_option maxHeartbeats 4000000
namespace Go.Proofs.Ytkdlfgjiinlkdaa
open Go.Vc Go.Dec Go.Win

theorem c_num_size' (p0 : Int) (r : Int) (h : num_size p0 = r) : Contract Try.prog 96 [.int .i64 p0] [] (.int .u64 r) [] := by
  refine contract_of_vcs tab_ok orders_ok Try.func96 Try.call96 (by kernel_rfl) 0 rfl rfl _ rfl ?_
  delta num_size at h
  refine Exists.intro none ?_
  refine Exists.intro none ?_
  refine And.intro (fun g1 => ?_) (fun g1 => ?_)
  · skip
    replace h := cT g1 h
    refine Exists.intro none ?_
    first | subst h | rw [← h]
    exact (And.intro rfl trivial)
  · skip
    replace h := cF g1 h
    refine Exists.intro none ?_
    first | subst h | rw [← h]
    exact (And.intro rfl trivial)
theorem c_num_size (p0 : Int) : Contract Try.prog 96 [.int .i64 p0] [] (.int .u64 (num_size p0)) [] := c_num_size' p0 (num_size p0) rfl

theorem c_math_bits_Mul64' (p0 : Int) (p1 : Int) (r : (Int × Int)) (h : math_bits_Mul64 p0 p1 = r) : Contract Try.prog 85 [.int .u64 p0, .int .u64 p1] [] (.tup [.int .u64 r.1, .int .u64 r.2]) [] := by
  refine contract_of_vcs tab_ok orders_ok Try.func85 Try.call85 (by kernel_rfl) 0 rfl rfl _ rfl ?_
  delta math_bits_Mul64 at h
  refine Exists.intro none ?_
  refine Exists.intro none ?_
  refine Exists.intro none ?_
  refine And.intro (by decide) ?_
  refine Exists.intro none ?_
  refine Exists.intro none ?_
  refine And.intro (by decide) ?_
  refine Exists.intro none ?_
  refine Exists.intro none ?_
  refine And.intro (by decide) ?_
  refine Exists.intro none ?_
  refine Exists.intro none ?_
  refine And.intro (by decide) ?_
  refine Exists.intro none ?_
  refine Exists.intro none ?_
  refine And.intro (by decide) ?_
  refine Exists.intro none ?_
  first | subst h | rw [← h]
  exact (And.intro rfl (And.intro rfl trivial))
theorem c_math_bits_Mul64 (p0 : Int) (p1 : Int) : Contract Try.prog 85 [.int .u64 p0, .int .u64 p1] [] (.tup [.int .u64 (math_bits_Mul64 p0 p1).1, .int .u64 (math_bits_Mul64 p0 p1).2]) [] := c_math_bits_Mul64' p0 p1 (math_bits_Mul64 p0 p1) rfl

theorem c_num_Mul' (p0 : Int) (p1 : Int) (r : (Int × Bool)) (h : num_Mul p0 p1 = r) : Contract Try.prog 65 [.int .i64 p0, .int .i64 p1] [] (.tup [.int .i64 r.1, .sb r.2]) [] := by
  refine contract_of_vcs tab_ok orders_ok Try.func65 Try.call65 (by kernel_rfl) 0 rfl rfl _ rfl ?_
  delta num_Mul at h
  refine Exists.intro none ?_
  refine Exists.intro none ?_
  refine Exists.intro _ (Exists.intro _ (And.intro (Contract.wk (c_num_size p0) (And.intro rfl trivial)) (And.intro rfl ?_)))
  refine Exists.intro _ (Exists.intro _ (And.intro (Contract.wk (c_num_size p1) (And.intro rfl trivial)) (And.intro rfl ?_)))
  refine Exists.intro _ (Exists.intro _ (And.intro (Contract.wk (c_math_bits_Mul64 (num_size p0) (num_size p1)) (And.intro rfl (And.intro rfl trivial))) (And.intro rfl ?_)))
  refine Exists.intro none ?_
  refine Exists.intro none ?_
  refine Exists.intro none ?_
  refine Exists.intro (some (⟨Int, fun j1_9 => [(.tmp 6, .av (.int .u64 (math_bits_Mul64 (num_size p0) (num_size p1)).1)), (.tmp 7, .av (.int .u64 (math_bits_Mul64 (num_size p0) (num_size p1)).2)), (.tmp 8, .av (.sb (!((decide (p0 < (0:Int))) == (decide (p1 < (0:Int))))))), (.tmp 9, .av (.int .u64 j1_9))], fun j1_9 => num_Mul_j1 p0 p1 (math_bits_Mul64 (num_size p0) (num_size p1)) j1_9 = r, fun _ => 0⟩, 1000000)) (And.intro ?_ ?_)
  · skip
    refine And.intro (fun g1 => ?_) (fun g1 => ?_)
    · skip
      replace h := cT g1 h
      refine Exists.intro none ?_
      exact Exists.intro [] (Exists.intro [] (Exists.intro (wu64 ((9223372036854775807:Int) + (1:Int))) (And.intro h (And.intro rfl (And.intro rfl (And.intro rfl (And.intro rfl (And.intro rfl trivial))))))))
    · skip
      replace h := cF g1 h
      exact Exists.intro [] (Exists.intro [] (Exists.intro (9223372036854775807:Int) (And.intro h (And.intro rfl (And.intro rfl (And.intro rfl (And.intro rfl (And.intro rfl trivial))))))))
  · skip
    clear h
    refine fun j1_9 h => ?_
    replace h : num_Mul_j1 p0 p1 (math_bits_Mul64 (num_size p0) (num_size p1)) j1_9 = r := h
    delta num_Mul_j1 at h
    refine Exists.intro none ?_
    refine Exists.intro none ?_
    refine And.intro (fun g2 => ?_) (fun g2 => ?_)
    · skip
      refine And.intro (fun g3 => ?_) (fun g3 => ?_)
      · skip
        replace h := cT (oR g2 g3) h
        refine Exists.intro none ?_
        first | subst h | rw [← h]
        exact (And.intro rfl (And.intro rfl trivial))
      · skip
        replace h := cF (oR g2 g3) h
        refine Exists.intro none ?_
        refine And.intro (fun g4 => ?_) (fun g4 => ?_)
        · skip
          replace h := cT g4 h
          refine Exists.intro none ?_
          first | subst h | rw [← h]
          exact (And.intro rfl (And.intro rfl trivial))
        · skip
          replace h := cF g4 h
          refine Exists.intro none ?_
          first | subst h | rw [← h]
          exact (And.intro rfl (And.intro rfl trivial))
    · skip
      replace h := cT (oL g2) h
      refine Exists.intro none ?_
      first | subst h | rw [← h]
      exact (And.intro rfl (And.intro rfl trivial))
theorem c_num_Mul (p0 : Int) (p1 : Int) : Contract Try.prog 65 [.int .i64 p0, .int .i64 p1] [] (.tup [.int .i64 (num_Mul p0 p1).1, .sb (num_Mul p0 p1).2]) [] := c_num_Mul' p0 p1 (num_Mul p0 p1) rfl

theorem c_num_Add' (p0 : Int) (p1 : Int) (r : (Int × Bool)) (h : num_Add p0 p1 = r) : Contract Try.prog 66 [.int .i64 p0, .int .i64 p1] [] (.tup [.int .i64 r.1, .sb r.2]) [] := by
  refine contract_of_vcs tab_ok orders_ok Try.func66 Try.call66 (by kernel_rfl) 0 rfl rfl _ rfl ?_
  delta num_Add at h
  refine Exists.intro none ?_
  refine Exists.intro none ?_
  refine Exists.intro none ?_
  refine Exists.intro (some (⟨Unit, fun _ => [(.tmp 6, .av (.int .i64 (w64 (p0 + p1)))), (.tmp 21, .av (.sb (((decide (p0 ≥ (0:Int))) == (decide (p1 ≥ (0:Int)))) && (!((decide ((w64 (p0 + p1)) ≥ (0:Int))) == (decide (p0 ≥ (0:Int))))))))], fun _ => True, fun _ => 0⟩, 1000000)) (And.intro ?_ (fun _ _ => ?_))
  · skip
    refine And.intro (fun g1 => ?_) (fun g1 => ?_)
    · skip
      exact Exists.intro [] (Exists.intro [] (Exists.intro () (And.intro trivial (And.intro rfl (And.intro rfl (And.intro (Eq.symm (aR g1 rfl)) trivial))))))
    · skip
      exact Exists.intro [] (Exists.intro [] (Exists.intro () (And.intro trivial (And.intro rfl (And.intro rfl (And.intro (Eq.symm (aL g1)) trivial))))))
  · skip
    refine And.intro (fun g2 => ?_) (fun g2 => ?_)
    · skip
      replace h := cT g2 h
      refine Exists.intro none ?_
      first | subst h | rw [← h]
      exact (And.intro rfl (And.intro rfl trivial))
    · skip
      replace h := cF g2 h
      refine Exists.intro none ?_
      first | subst h | rw [← h]
      exact (And.intro rfl (And.intro rfl trivial))
theorem c_num_Add (p0 : Int) (p1 : Int) : Contract Try.prog 66 [.int .i64 p0, .int .i64 p1] [] (.tup [.int .i64 (num_Add p0 p1).1, .sb (num_Add p0 p1).2]) [] := c_num_Add' p0 p1 (num_Add p0 p1) rfl

theorem c_exact_Squares (p0 : (List api_Item)) (r : (Int × Bool)) (h : exact_Squares p0 = some r) : Contract Try.prog 30 [.lst 2 false (List.map enc_api_Item p0)] [] (.tup [.int .i64 r.1, .sb r.2]) [] := by
  refine contract_of_vcs tab_ok orders_ok Try.func30 Try.call30 (by kernel_rfl) 0 rfl rfl _ rfl ?_
  delta exact_Squares at h
  refine Exists.intro none ?_
  refine Exists.intro none ?_
  refine Exists.intro none ?_
  refine Exists.intro [.int .i64 (p0.length : Int)] (And.intro (lenS enc_api_Item p0) ?_)
  replace h : exact_Squares_l2 p0 (0:Int) (0:Int) = some r := h
  delta exact_Squares_l2 at h
  obtain ⟨n1, h⟩ := loopS h
  refine Exists.intro ⟨(Int × Int) × Nat, fun q => [(.tmp 4, .av (.int .i64 q.1.1)), (.tmp 9, .av (.lst 2 false (List.map enc_api_Item p0))), (.tmp 10, .av (.int .i64 (p0.length : Int))), (.tmp 11, .av (.int .i64 q.1.2))], fun q => loopN (fun (s : (Int × Int)) => exact_Squares_l2s p0 s.1 s.2) q.2 q.1 = some r, fun q => q.2⟩ (And.intro (Exists.intro [] (Exists.intro [] (Exists.intro (((0:Int), (0:Int)), n1) (And.intro h (And.intro rfl (And.intro rfl (And.intro ff (And.intro rfl (And.intro rfl (And.intro rfl trivial)))))))))) ?_)
  clear h
  refine fun q h => ?_
  obtain ⟨⟨v2_4, v2_11⟩, n1⟩ := q
  obtain ⟨m1, x1, hm1, h, hl1, hr1⟩ := loopN_step h
  replace hm1 : n1 = m1 + 1 := hm1
  subst hm1
  replace h : exact_Squares_l2s p0 v2_4 v2_11 = some x1 := h
  delta exact_Squares_l2s at h
  refine Exists.intro none ?_
  refine And.intro (fun g1 => ?_) (fun g1 => ?_)
  · skip
    replace h := cT g1 h
    refine Exists.intro none ?_
    obtain ⟨x4_0, e4_0, h⟩ := bS h
    refine Exists.intro [.int .i64 x4_0.T, .int .i64 x4_0.V] (And.intro (idx_map enc_api_Item e4_0) ?_)
    refine Exists.intro none ?_
    refine Exists.intro _ (Exists.intro _ (And.intro (Contract.wk (c_num_Mul x4_0.V x4_0.V) (And.intro rfl (And.intro rfl trivial))) (And.intro rfl ?_)))
    refine Exists.intro none ?_
    refine And.intro (fun g2 => ?_) (fun g2 => ?_)
    · skip
      replace h := cT g2 h
      refine Exists.intro none ?_
      replace h := retS h hr1
      first | subst h | rw [← h]
      exact (And.intro rfl (And.intro rfl trivial))
    · skip
      replace h := cF g2 h
      refine Exists.intro none ?_
      refine Exists.intro _ (Exists.intro _ (And.intro (Contract.wk (c_num_Add v2_4 (num_Mul x4_0.V x4_0.V).1) (And.intro rfl (And.intro rfl trivial))) (And.intro rfl ?_)))
      refine Exists.intro none ?_
      refine And.intro (fun g3 => ?_) (fun g3 => ?_)
      · skip
        replace h := cT g3 h
        refine Exists.intro none ?_
        replace h := retS h hr1
        first | subst h | rw [← h]
        exact (And.intro rfl (And.intro rfl trivial))
      · skip
        replace h := cF g3 h
        refine Exists.intro none ?_
        exact Exists.intro [] (Exists.intro [] (Exists.intro (((num_Add v2_4 (num_Mul x4_0.V x4_0.V).1).1, (w64 (v2_11 + (1:Int)))), m1) (And.intro (hl1 ((num_Add v2_4 (num_Mul x4_0.V x4_0.V).1).1, (w64 (v2_11 + (1:Int)))) (Option.some.inj h).symm) (And.intro (Nat.lt_succ_self m1) (And.intro rfl (And.intro rfl (And.intro ff (And.intro rfl (And.intro rfl (And.intro rfl trivial))))))))))
  · skip
    replace h := cF g1 h
    replace h := popS h hr1
    refine Exists.intro none ?_
    replace h := Option.some.inj h
    first | subst h | rw [← h]
    exact (And.intro rfl (And.intro rfl trivial))

theorem c_exact_Count' (p0 : (List api_Item)) (r : Int) (h : exact_Count p0 = r) : Contract Try.prog 31 [.lst 2 false (List.map enc_api_Item p0)] [] (.int .i64 r) [] := by
  refine contract_of_vcs tab_ok orders_ok Try.func31 Try.call31 (by kernel_rfl) 0 rfl rfl _ rfl ?_
  delta exact_Count at h
  refine Exists.intro none ?_
  refine Exists.intro none ?_
  refine Exists.intro [.int .i64 (p0.length : Int)] (And.intro (lenS enc_api_Item p0) ?_)
  first | subst h | rw [← h]
  exact (And.intro rfl trivial)
theorem c_exact_Count (p0 : (List api_Item)) : Contract Try.prog 31 [.lst 2 false (List.map enc_api_Item p0)] [] (.int .i64 (exact_Count p0)) [] := c_exact_Count' p0 (exact_Count p0) rfl

theorem c_law08_awake (r : Bool) (h : law08_awake = some r) : Contract Try.prog 9 [] [] (.sb r) [] := by
  refine contract_of_vcs tab_ok orders_ok Try.func9 Try.call9 (by kernel_rfl) 0 rfl rfl _ rfl ?_
  delta law08_awake at h
  refine Exists.intro none ?_
  refine Exists.intro none ?_
  refine Exists.intro none ?_
  obtain ⟨y2_1, e2_1, h⟩ := bS h
  refine Exists.intro _ (Exists.intro _ (And.intro (Contract.wk (c_exact_Squares [(api_Item.mk (0:Int) (2:Int)), (api_Item.mk (1:Int) (4:Int)), (api_Item.mk (1:Int) (9:Int))] y2_1 e2_1) (And.intro ff (And.intro (by first | rfl | (simp only [List.map_append, List.map_cons, List.map_nil, List.map_take, List.map_drop, List.map_set, List.map_replicate]; done) | (simp only [List.map_append, List.map_cons, List.map_nil, List.map_take, List.map_drop, List.map_set, List.map_replicate]; rfl) | (simp only [List.map_append, List.map_cons, List.map_nil, List.map_take, List.map_drop, List.map_set, List.map_replicate, eL, enc_api_Command, enc_tape_Tape, enc_ref27_Cursor, enc_api_Answer, enc_api_Reply]; done) | (simp only [List.map_append, List.map_cons, List.map_nil, List.map_take, List.map_drop, List.map_set, List.map_replicate, eL, enc_api_Command, enc_tape_Tape, enc_ref27_Cursor, enc_api_Answer, enc_api_Reply]; rfl)) trivial))) (And.intro rfl ?_)))
  refine Exists.intro none ?_
  refine Exists.intro none ?_
  refine And.intro (fun g1 => ?_) (fun g1 => ?_)
  · skip
    refine And.intro (fun g2 => ?_) (fun g2 => ?_)
    · skip
      refine Exists.intro _ (Exists.intro _ (And.intro (Contract.wk (c_exact_Count [(api_Item.mk (0:Int) (2:Int)), (api_Item.mk (1:Int) (4:Int)), (api_Item.mk (1:Int) (9:Int))]) (And.intro ff (And.intro (by first | rfl | (simp only [List.map_append, List.map_cons, List.map_nil, List.map_take, List.map_drop, List.map_set, List.map_replicate]; done) | (simp only [List.map_append, List.map_cons, List.map_nil, List.map_take, List.map_drop, List.map_set, List.map_replicate]; rfl) | (simp only [List.map_append, List.map_cons, List.map_nil, List.map_take, List.map_drop, List.map_set, List.map_replicate, eL, enc_api_Command, enc_tape_Tape, enc_ref27_Cursor, enc_api_Answer, enc_api_Reply]; done) | (simp only [List.map_append, List.map_cons, List.map_nil, List.map_take, List.map_drop, List.map_set, List.map_replicate, eL, enc_api_Command, enc_tape_Tape, enc_ref27_Cursor, enc_api_Answer, enc_api_Reply]; rfl)) trivial))) (And.intro rfl ?_)))
      replace h := Option.some.inj h
      first | subst h | rw [← h]
      exact (And.intro (Eq.symm (aR (aR g1 g2) rfl)) trivial)
    · skip
      replace h := Option.some.inj h
      first | subst h | rw [← h]
      exact (And.intro (Eq.symm (aL (aR g1 g2))) trivial)
  · skip
    replace h := Option.some.inj h
    first | subst h | rw [← h]
    exact (And.intro (Eq.symm (aL (aL g1))) trivial)

theorem c_wide_Of' (p0 : Int) (r : api_Wide) (h : wide_Of p0 = r) : Contract Try.prog 34 [.int .u64 p0] [] (.agg [.int .u64 r.Hi, .int .u64 r.Lo]) [] := by
  refine contract_of_vcs tab_ok orders_ok Try.func34 Try.call34 (by kernel_rfl) 0 rfl rfl _ rfl ?_
  delta wide_Of at h
  refine Exists.intro none ?_
  refine Exists.intro none ?_
  first | subst h | rw [← h]
  exact (And.intro rfl (And.intro rfl trivial))
theorem c_wide_Of (p0 : Int) : Contract Try.prog 34 [.int .u64 p0] [] (.agg [.int .u64 (wide_Of p0).Hi, .int .u64 (wide_Of p0).Lo]) [] := c_wide_Of' p0 (wide_Of p0) rfl

theorem c_math_bits_Len64 (p0 : Int) (r : Int) (h : math_bits_Len64 p0 = some r) : Contract Try.prog 97 [.int .u64 p0] [] (.int .i64 r) [] := by
  unfold math_bits_Len64 at h
  obtain ⟨k, h⟩ := ckS h
  obtain ⟨k1, k2⟩ := of_decide_eq_true k
  cases h
  exact calls_contract1 Try.call97 fun w => walk_Len64 p0 w k1 k2

theorem c_math_bits_Add64 (p0 p1 p2 : Int) (r : (Int × Int)) (h : math_bits_Add64 p0 p1 p2 = some r) : Contract Try.prog 69 [.int .u64 p0, .int .u64 p1, .int .u64 p2] [] (.tup [.int .u64 r.1, .int .u64 r.2]) [] :=
  ext_Add64 Try.func69 (by kernel_rfl) (by kernel_rfl) (by kernel_rfl) (by kernel_rfl) p0 p1 p2 r h

theorem c_wide_Add (p0 : api_Wide) (p1 : api_Wide) (r : (api_Wide × Bool)) (h : wide_Add p0 p1 = some r) : Contract Try.prog 35 [.agg [.int .u64 p0.Hi, .int .u64 p0.Lo], .agg [.int .u64 p1.Hi, .int .u64 p1.Lo]] [] (.tup [.agg [.int .u64 r.1.Hi, .int .u64 r.1.Lo], .sb r.2]) [] := by
  refine contract_of_vcs tab_ok orders_ok Try.func35 Try.call35 (by kernel_rfl) 0 rfl rfl _ rfl ?_
  delta wide_Add at h
  refine Exists.intro none ?_
  refine Exists.intro none ?_
  obtain ⟨y1_4, e1_4, h⟩ := bS h
  refine Exists.intro _ (Exists.intro _ (And.intro (Contract.wk (c_math_bits_Add64 p0.Lo p1.Lo (0:Int) y1_4 e1_4) (And.intro rfl (And.intro rfl (And.intro rfl trivial)))) (And.intro rfl ?_)))
  refine Exists.intro none ?_
  obtain ⟨y2_5, e2_5, h⟩ := bS h
  refine Exists.intro _ (Exists.intro _ (And.intro (Contract.wk (c_math_bits_Add64 p0.Hi p1.Hi y1_4.2 y2_5 e2_5) (And.intro rfl (And.intro rfl (And.intro rfl trivial)))) (And.intro rfl ?_)))
  refine Exists.intro none ?_
  refine And.intro (fun g1 => ?_) (fun g1 => ?_)
  · skip
    replace h := cT g1 h
    refine Exists.intro none ?_
    replace h := Option.some.inj h
    first | subst h | rw [← h]
    exact (And.intro rfl (And.intro rfl (And.intro rfl trivial)))
  · skip
    replace h := cF g1 h
    refine Exists.intro none ?_
    replace h := Option.some.inj h
    first | subst h | rw [← h]
    exact (And.intro rfl (And.intro rfl (And.intro rfl trivial)))

theorem c_ref02_Of' (p0 : Int) (r : api_Wide) (h : ref02_Of p0 = r) : Contract Try.prog 38 [.int .u64 p0] [] (.agg [.int .u64 r.Hi, .int .u64 r.Lo]) [] := by
  refine contract_of_vcs tab_ok orders_ok Try.func38 Try.call38 (by kernel_rfl) 0 rfl rfl _ rfl ?_
  delta ref02_Of at h
  refine Exists.intro none ?_
  refine Exists.intro none ?_
  first | subst h | rw [← h]
  exact (And.intro rfl (And.intro rfl trivial))
theorem c_ref02_Of (p0 : Int) : Contract Try.prog 38 [.int .u64 p0] [] (.agg [.int .u64 (ref02_Of p0).Hi, .int .u64 (ref02_Of p0).Lo]) [] := c_ref02_Of' p0 (ref02_Of p0) rfl

theorem c_ref02_double' (p0 : api_Wide) (p1 : Int) (r : (api_Wide × Int)) (h : ref02_double p0 p1 = r) : Contract Try.prog 70 [.agg [.int .u64 p0.Hi, .int .u64 p0.Lo], .int .u64 p1] [] (.tup [.agg [.int .u64 r.1.Hi, .int .u64 r.1.Lo], .int .u64 r.2]) [] := by
  refine contract_of_vcs tab_ok orders_ok Try.func70 Try.call70 (by kernel_rfl) 0 rfl rfl _ rfl ?_
  delta ref02_double at h
  refine Exists.intro none ?_
  refine Exists.intro none ?_
  refine And.intro (by decide) ?_
  refine And.intro (by decide) ?_
  refine And.intro (by decide) ?_
  refine And.intro (by decide) ?_
  first | subst h | rw [← h]
  exact (And.intro rfl (And.intro rfl (And.intro rfl trivial)))
theorem c_ref02_double (p0 : api_Wide) (p1 : Int) : Contract Try.prog 70 [.agg [.int .u64 p0.Hi, .int .u64 p0.Lo], .int .u64 p1] [] (.tup [.agg [.int .u64 (ref02_double p0 p1).1.Hi, .int .u64 (ref02_double p0 p1).1.Lo], .int .u64 (ref02_double p0 p1).2]) [] := c_ref02_double' p0 p1 (ref02_double p0 p1) rfl

theorem c_exact_size' (p0 : Int) (r : Int) (h : exact_size p0 = r) : Contract Try.prog 57 [.int .i64 p0] [] (.int .u64 r) [] := by
  refine contract_of_vcs tab_ok orders_ok Try.func57 Try.call57 (by kernel_rfl) 0 rfl rfl _ rfl ?_
  delta exact_size at h
  refine Exists.intro none ?_
  refine Exists.intro none ?_
  refine And.intro (fun g1 => ?_) (fun g1 => ?_)
  · skip
    replace h := cT g1 h
    refine Exists.intro none ?_
    first | subst h | rw [← h]
    exact (And.intro rfl trivial)
  · skip
    replace h := cF g1 h
    refine Exists.intro none ?_
    first | subst h | rw [← h]
    exact (And.intro rfl trivial)
theorem c_exact_size (p0 : Int) : Contract Try.prog 57 [.int .i64 p0] [] (.int .u64 (exact_size p0)) [] := c_exact_size' p0 (exact_size p0) rfl

theorem c_exact_quad_times (p0 : exact_quad) (p1 : Int) (p2 : Int) (p3 : Int) (r : exact_quad) (h : exact_quad_times p0 p1 p2 p3 = some r) : Contract Try.prog 56 [.ptr 0 0, .int .u64 p1, .int .u64 p2, .int .i64 p3] [[.int .u64 p0.e0, .int .u64 p0.e1, .int .u64 p0.e2, .int .u64 p0.e3]] (.tup []) [[.int .u64 r.e0, .int .u64 r.e1, .int .u64 r.e2, .int .u64 r.e3]] := by
  refine contract_of_vcs tab_ok orders_ok Try.func56 Try.call56 (by kernel_rfl) 1 rfl rfl _ rfl ?_
  delta exact_quad_times at h
  refine Exists.intro none ?_
  refine Exists.intro _ (Exists.intro _ (And.intro (Contract.wk (c_math_bits_Mul64 p1 p2) (And.intro rfl (And.intro rfl trivial))) (And.intro rfl ?_)))
  refine Exists.intro none ?_
  refine Exists.intro none ?_
  obtain ⟨x2_5, e2_5, h⟩ := bS h
  obtain ⟨x2_6, e2_6, h⟩ := bS h
  obtain ⟨y2_8, e2_8, h⟩ := bS h
  obtain ⟨x2_13, e2_13, h⟩ := bS h
  obtain ⟨x2_14, e2_14, h⟩ := bS h
  refine And.intro (idx_lt (eI .u64) e2_5) ?_
  refine Exists.intro [.int .u64 x2_6] (And.intro (idx_elt (eI .u64) e2_6) ?_)
  refine Exists.intro _ (Exists.intro _ (And.intro (Contract.wk (c_math_bits_Add64 x2_6 (math_bits_Mul64 p1 p2).2 (0:Int) y2_8 e2_8) (And.intro rfl (And.intro rfl (And.intro rfl trivial)))) (And.intro rfl ?_)))
  refine And.intro (idx_lt (eI .u64) e2_13) ?_
  refine And.intro (idx_ltN (AV.int .u64) e2_14) ?_
  refine Exists.intro none ?_
  replace h : exact_quad_times_l2 (math_bits_Mul64 p1 p2).1 y2_8.2 (w64 (p3 + (1:Int))) (if (p3).toNat = 0 then y2_8.1 else p0.e0) (if (p3).toNat = 1 then y2_8.1 else p0.e1) (if (p3).toNat = 2 then y2_8.1 else p0.e2) (if (p3).toNat = 3 then y2_8.1 else p0.e3) = some r := h
  delta exact_quad_times_l2 at h
  obtain ⟨n1, h⟩ := loopS h
  refine Exists.intro ⟨(Int × Int × Int × Int × Int × Int × Int) × Nat, fun q => [(.tmp 0, .av (.ptr 0 0)), (.tmp 8, .av (.int .u64 q.1.1)), (.tmp 10, .av (.int .u64 q.1.2.1)), (.tmp 11, .av (.int .i64 q.1.2.2.1)), (.box 0, .box [.int .u64 q.1.2.2.2.1, .int .u64 q.1.2.2.2.2.1, .int .u64 q.1.2.2.2.2.2.1, .int .u64 q.1.2.2.2.2.2.2])], fun q => loopN (fun (s : (Int × Int × Int × Int × Int × Int × Int)) => exact_quad_times_l2s s.1 s.2.1 s.2.2.1 s.2.2.2.1 s.2.2.2.2.1 s.2.2.2.2.2.1 s.2.2.2.2.2.2) q.2 q.1 = some r, fun q => q.2⟩ (And.intro (Exists.intro [] (Exists.intro [] (Exists.intro (((math_bits_Mul64 p1 p2).1, y2_8.2, (w64 (p3 + (1:Int))), (if (p3).toNat = 0 then y2_8.1 else p0.e0), (if (p3).toNat = 1 then y2_8.1 else p0.e1), (if (p3).toNat = 2 then y2_8.1 else p0.e2), (if (p3).toNat = 3 then y2_8.1 else p0.e3)), n1) (And.intro h (And.intro rfl (And.intro rfl (And.intro rfl (And.intro rfl (And.intro rfl (And.intro rfl (And.intro rfl (And.intro rfl trivial)))))))))))) ?_)
  clear h
  refine fun q h => ?_
  obtain ⟨⟨v2_8, v2_10, v2_11, v2_b0_0, v2_b0_1, v2_b0_2, v2_b0_3⟩, n1⟩ := q
  obtain ⟨m1, x1, hm1, h, hl1, hr1⟩ := loopN_step h
  replace hm1 : n1 = m1 + 1 := hm1
  subst hm1
  replace h : exact_quad_times_l2s v2_8 v2_10 v2_11 v2_b0_0 v2_b0_1 v2_b0_2 v2_b0_3 = some x1 := h
  delta exact_quad_times_l2s at h
  refine Exists.intro none ?_
  refine And.intro (fun g1 => ?_) (fun g1 => ?_)
  · skip
    replace h := cT g1 h
    refine Exists.intro none ?_
    obtain ⟨x6_5, e6_5, h⟩ := bS h
    obtain ⟨x6_6, e6_6, h⟩ := bS h
    obtain ⟨y6_9, e6_9, h⟩ := bS h
    obtain ⟨x6_14, e6_14, h⟩ := bS h
    obtain ⟨x6_15, e6_15, h⟩ := bS h
    refine And.intro (idx_lt (eI .u64) e6_5) ?_
    refine Exists.intro [.int .u64 x6_6] (And.intro (idx_elt (eI .u64) e6_6) ?_)
    refine Exists.intro _ (Exists.intro _ (And.intro (Contract.wk (c_math_bits_Add64 x6_6 v2_8 v2_10 y6_9 e6_9) (And.intro rfl (And.intro rfl (And.intro rfl trivial)))) (And.intro rfl ?_)))
    refine And.intro (idx_lt (eI .u64) e6_14) ?_
    refine And.intro (idx_ltN (AV.int .u64) e6_15) ?_
    refine Exists.intro none ?_
    refine Exists.intro none ?_
    exact Exists.intro [] (Exists.intro [] (Exists.intro (((0:Int), y6_9.2, (w64 (v2_11 + (1:Int))), (if (v2_11).toNat = 0 then y6_9.1 else v2_b0_0), (if (v2_11).toNat = 1 then y6_9.1 else v2_b0_1), (if (v2_11).toNat = 2 then y6_9.1 else v2_b0_2), (if (v2_11).toNat = 3 then y6_9.1 else v2_b0_3)), m1) (And.intro (hl1 ((0:Int), y6_9.2, (w64 (v2_11 + (1:Int))), (if (v2_11).toNat = 0 then y6_9.1 else v2_b0_0), (if (v2_11).toNat = 1 then y6_9.1 else v2_b0_1), (if (v2_11).toNat = 2 then y6_9.1 else v2_b0_2), (if (v2_11).toNat = 3 then y6_9.1 else v2_b0_3)) (Option.some.inj h).symm) (And.intro (Nat.lt_succ_self m1) (And.intro rfl (And.intro rfl (And.intro rfl (And.intro rfl (And.intro rfl (And.intro rfl (And.intro rfl (And.intro rfl trivial))))))))))))
  · skip
    replace h := cF g1 h
    replace h := popS h hr1
    replace h := Option.some.inj h
    first | subst h | rw [← h]
    exact (And.intro rfl (And.intro rfl (And.intro rfl (And.intro rfl trivial))))

theorem c_wide_Compare' (p0 : api_Wide) (p1 : api_Wide) (r : Int) (h : wide_Compare p0 p1 = r) : Contract Try.prog 86 [.agg [.int .u64 p0.Hi, .int .u64 p0.Lo], .agg [.int .u64 p1.Hi, .int .u64 p1.Lo]] [] (.int .i64 r) [] := by
  refine contract_of_vcs tab_ok orders_ok Try.func86 Try.call86 (by kernel_rfl) 0 rfl rfl _ rfl ?_
  delta wide_Compare at h
  refine Exists.intro none ?_
  refine Exists.intro none ?_
  refine Exists.intro (some (⟨Unit, fun _ => [(.tmp 2, .av (.ptr 0 0)), (.tmp 3, .av (.ptr 1 0)), (.tmp 5, .av (.sb ((decide (p0.Hi < p1.Hi)) || ((p0.Hi == p1.Hi) && (decide (p0.Lo < p1.Lo)))))), (.box 0, .box [.int .u64 p0.Hi, .int .u64 p0.Lo]), (.box 1, .box [.int .u64 p1.Hi, .int .u64 p1.Lo])], fun _ => True, fun _ => 0⟩, 1000000)) (And.intro ?_ (fun _ _ => ?_))
  · skip
    refine And.intro (fun g1 => ?_) (fun g1 => ?_)
    · skip
      refine And.intro (fun g2 => ?_) (fun g2 => ?_)
      · skip
        exact Exists.intro [] (Exists.intro [] (Exists.intro () (And.intro trivial (And.intro rfl (And.intro (Eq.symm (oR g1 (aR g2 rfl))) (And.intro rfl (And.intro rfl (And.intro rfl (And.intro rfl trivial)))))))))
      · skip
        exact Exists.intro [] (Exists.intro [] (Exists.intro () (And.intro trivial (And.intro rfl (And.intro (Eq.symm (oR g1 (aL g2))) (And.intro rfl (And.intro rfl (And.intro rfl (And.intro rfl trivial)))))))))
    · skip
      exact Exists.intro [] (Exists.intro [] (Exists.intro () (And.intro trivial (And.intro rfl (And.intro (Eq.symm (oL g1)) (And.intro rfl (And.intro rfl (And.intro rfl (And.intro rfl trivial)))))))))
  · skip
    refine And.intro (fun g3 => ?_) (fun g3 => ?_)
    · skip
      replace h := cT g3 h
      refine Exists.intro none ?_
      first | subst h | rw [← h]
      exact (And.intro rfl trivial)
    · skip
      replace h := cF g3 h
      refine Exists.intro none ?_
      refine And.intro (fun g4 => ?_) (fun g4 => ?_)
      · skip
        replace h := cT g4 h
        refine Exists.intro none ?_
        first | subst h | rw [← h]
        exact (And.intro rfl trivial)
      · skip
        replace h := cF g4 h
        refine Exists.intro none ?_
        first | subst h | rw [← h]
        exact (And.intro rfl trivial)
theorem c_wide_Compare (p0 : api_Wide) (p1 : api_Wide) : Contract Try.prog 86 [.agg [.int .u64 p0.Hi, .int .u64 p0.Lo], .agg [.int .u64 p1.Hi, .int .u64 p1.Lo]] [] (.int .i64 (wide_Compare p0 p1)) [] := c_wide_Compare' p0 p1 (wide_Compare p0 p1) rfl

theorem c_math_bits_Sub64 (p0 p1 p2 : Int) (r : (Int × Int)) (h : math_bits_Sub64 p0 p1 p2 = some r) : Contract Try.prog 88 [.int .u64 p0, .int .u64 p1, .int .u64 p2] [] (.tup [.int .u64 r.1, .int .u64 r.2]) [] :=
  ext_Sub64 Try.func88 (by kernel_rfl) (by kernel_rfl) (by kernel_rfl) (by kernel_rfl) p0 p1 p2 r h

theorem c_wide_Sub (p0 : api_Wide) (p1 : api_Wide) (r : (api_Wide × Bool)) (h : wide_Sub p0 p1 = some r) : Contract Try.prog 87 [.agg [.int .u64 p0.Hi, .int .u64 p0.Lo], .agg [.int .u64 p1.Hi, .int .u64 p1.Lo]] [] (.tup [.agg [.int .u64 r.1.Hi, .int .u64 r.1.Lo], .sb r.2]) [] := by
  refine contract_of_vcs tab_ok orders_ok Try.func87 Try.call87 (by kernel_rfl) 0 rfl rfl _ rfl ?_
  delta wide_Sub at h
  refine Exists.intro none ?_
  refine Exists.intro none ?_
  obtain ⟨y1_4, e1_4, h⟩ := bS h
  refine Exists.intro _ (Exists.intro _ (And.intro (Contract.wk (c_math_bits_Sub64 p0.Lo p1.Lo (0:Int) y1_4 e1_4) (And.intro rfl (And.intro rfl (And.intro rfl trivial)))) (And.intro rfl ?_)))
  refine Exists.intro none ?_
  obtain ⟨y2_5, e2_5, h⟩ := bS h
  refine Exists.intro _ (Exists.intro _ (And.intro (Contract.wk (c_math_bits_Sub64 p0.Hi p1.Hi y1_4.2 y2_5 e2_5) (And.intro rfl (And.intro rfl (And.intro rfl trivial)))) (And.intro rfl ?_)))
  refine Exists.intro none ?_
  refine And.intro (fun g1 => ?_) (fun g1 => ?_)
  · skip
    replace h := cT g1 h
    refine Exists.intro none ?_
    replace h := Option.some.inj h
    first | subst h | rw [← h]
    exact (And.intro rfl (And.intro rfl (And.intro rfl trivial)))
  · skip
    replace h := cF g1 h
    refine Exists.intro none ?_
    replace h := Option.some.inj h
    first | subst h | rw [← h]
    exact (And.intro rfl (And.intro rfl (And.intro rfl trivial)))

theorem c_exact_total (p0 : (List api_Item)) (r : (Bool × api_Wide)) (h : exact_total p0 = some r) : Contract Try.prog 58 [.lst 2 false (List.map enc_api_Item p0)] [] (.tup [.sb r.1, .agg [.int .u64 r.2.Hi, .int .u64 r.2.Lo]]) [] := by
  refine contract_of_vcs tab_ok orders_ok Try.func58 Try.call58 (by kernel_rfl) 0 rfl rfl _ rfl ?_
  delta exact_total at h
  refine Exists.intro none ?_
  refine Exists.intro none ?_
  refine Exists.intro none ?_
  refine Exists.intro [.int .i64 (p0.length : Int)] (And.intro (lenS enc_api_Item p0) ?_)
  replace h : exact_total_l2 p0 (0:Int) (0:Int) (0:Int) (0:Int) (0:Int) = some r := h
  delta exact_total_l2 at h
  obtain ⟨n1, h⟩ := loopS h
  refine Exists.intro ⟨(Int × Int × Int × Int × Int) × Nat, fun q => [(.tmp 3, .av (.ptr 1 0)), (.tmp 4, .av (.ptr 256 0)), (.tmp 5, .av (.ptr 257 0)), (.tmp 12, .av (.lst 2 false (List.map enc_api_Item p0))), (.tmp 13, .av (.int .i64 (p0.length : Int))), (.tmp 14, .av (.int .i64 q.1.1)), (.box 1, .box [.int .u64 (0:Int), .int .u64 (0:Int)]), (.box 256, .box [.int .u64 q.1.2.1, .int .u64 q.1.2.2.1]), (.box 257, .box [.int .u64 q.1.2.2.2.1, .int .u64 q.1.2.2.2.2])], fun q => loopN (fun (s : (Int × Int × Int × Int × Int)) => exact_total_l2s p0 s.1 s.2.1 s.2.2.1 s.2.2.2.1 s.2.2.2.2) q.2 q.1 = some r, fun q => q.2⟩ (And.intro (Exists.intro [] (Exists.intro [] (Exists.intro (((0:Int), (0:Int), (0:Int), (0:Int), (0:Int)), n1) (And.intro h (And.intro rfl (And.intro ff (And.intro rfl (And.intro rfl (And.intro rfl (And.intro rfl (And.intro rfl (And.intro rfl (And.intro rfl (And.intro rfl (And.intro rfl trivial))))))))))))))) ?_)
  clear h
  refine fun q h => ?_
  obtain ⟨⟨v2_14, v2_b1x0_0, v2_b1x0_1, v2_b1x1_0, v2_b1x1_1⟩, n1⟩ := q
  obtain ⟨m1, x1, hm1, h, hl1, hr1⟩ := loopN_step h
  replace hm1 : n1 = m1 + 1 := hm1
  subst hm1
  replace h : exact_total_l2s p0 v2_14 v2_b1x0_0 v2_b1x0_1 v2_b1x1_0 v2_b1x1_1 = some x1 := h
  delta exact_total_l2s at h
  refine Exists.intro none ?_
  refine And.intro (fun g1 => ?_) (fun g1 => ?_)
  · skip
    replace h := cT g1 h
    refine Exists.intro none ?_
    refine Exists.intro none ?_
    obtain ⟨x4_0, e4_0, h⟩ := bS h
    refine Exists.intro [.int .i64 x4_0.T, .int .i64 x4_0.V] (And.intro (idx_map enc_api_Item e4_0) ?_)
    refine Exists.intro none ?_
    refine Exists.intro none ?_
    refine And.intro (fun g2 => ?_) (fun g2 => ?_)
    · skip
      replace h := cT g2 h
      refine Exists.intro none ?_
      obtain ⟨y6_5, e6_5, h⟩ := bS h
      refine Exists.intro _ (Exists.intro _ (And.intro (Contract.wk (c_exact_size x4_0.V) (And.intro rfl trivial)) (And.intro rfl ?_)))
      refine Exists.intro _ (Exists.intro _ (And.intro (Contract.wk (c_wide_Of (exact_size x4_0.V)) (And.intro rfl trivial)) (And.intro rfl ?_)))
      refine Exists.intro _ (Exists.intro _ (And.intro (Contract.wk (c_wide_Add (api_Wide.mk v2_b1x1_0 v2_b1x1_1) (wide_Of (exact_size x4_0.V)) y6_5 e6_5) (And.intro rfl (And.intro rfl (And.intro rfl (And.intro rfl trivial))))) (And.intro rfl ?_)))
      refine Exists.intro none ?_
      exact Exists.intro [] (Exists.intro [] (Exists.intro (((w64 (v2_14 + (1:Int))), v2_b1x0_0, v2_b1x0_1, y6_5.1.Hi, y6_5.1.Lo), m1) (And.intro (hl1 ((w64 (v2_14 + (1:Int))), v2_b1x0_0, v2_b1x0_1, y6_5.1.Hi, y6_5.1.Lo) (Option.some.inj h).symm) (And.intro (Nat.lt_succ_self m1) (And.intro rfl (And.intro ff (And.intro rfl (And.intro rfl (And.intro rfl (And.intro rfl (And.intro rfl (And.intro rfl (And.intro rfl (And.intro rfl (And.intro rfl trivial)))))))))))))))
    · skip
      replace h := cF g2 h
      refine Exists.intro none ?_
      obtain ⟨y7_5, e7_5, h⟩ := bS h
      refine Exists.intro _ (Exists.intro _ (And.intro (Contract.wk (c_exact_size x4_0.V) (And.intro rfl trivial)) (And.intro rfl ?_)))
      refine Exists.intro _ (Exists.intro _ (And.intro (Contract.wk (c_wide_Of (exact_size x4_0.V)) (And.intro rfl trivial)) (And.intro rfl ?_)))
      refine Exists.intro _ (Exists.intro _ (And.intro (Contract.wk (c_wide_Add (api_Wide.mk v2_b1x0_0 v2_b1x0_1) (wide_Of (exact_size x4_0.V)) y7_5 e7_5) (And.intro rfl (And.intro rfl (And.intro rfl (And.intro rfl trivial))))) (And.intro rfl ?_)))
      refine Exists.intro none ?_
      exact Exists.intro [] (Exists.intro [] (Exists.intro (((w64 (v2_14 + (1:Int))), y7_5.1.Hi, y7_5.1.Lo, v2_b1x1_0, v2_b1x1_1), m1) (And.intro (hl1 ((w64 (v2_14 + (1:Int))), y7_5.1.Hi, y7_5.1.Lo, v2_b1x1_0, v2_b1x1_1) (Option.some.inj h).symm) (And.intro (Nat.lt_succ_self m1) (And.intro rfl (And.intro ff (And.intro rfl (And.intro rfl (And.intro rfl (And.intro rfl (And.intro rfl (And.intro rfl (And.intro rfl (And.intro rfl (And.intro rfl trivial)))))))))))))))
  · skip
    replace h := cF g1 h
    replace h := popS h hr1
    refine Exists.intro none ?_
    refine Exists.intro _ (Exists.intro _ (And.intro (Contract.wk (c_wide_Compare (api_Wide.mk v2_b1x0_0 v2_b1x0_1) (api_Wide.mk v2_b1x1_0 v2_b1x1_1)) (And.intro rfl (And.intro rfl (And.intro rfl (And.intro rfl trivial))))) (And.intro rfl ?_)))
    refine And.intro (fun g3 => ?_) (fun g3 => ?_)
    · skip
      replace h := cT g3 h
      refine Exists.intro none ?_
      obtain ⟨y10_2, e10_2, h⟩ := bS h
      refine Exists.intro _ (Exists.intro _ (And.intro (Contract.wk (c_wide_Sub (api_Wide.mk v2_b1x0_0 v2_b1x0_1) (api_Wide.mk v2_b1x1_0 v2_b1x1_1) y10_2 e10_2) (And.intro rfl (And.intro rfl (And.intro rfl (And.intro rfl trivial))))) (And.intro rfl ?_)))
      refine Exists.intro none ?_
      replace h := Option.some.inj h
      first | subst h | rw [← h]
      exact (And.intro rfl (And.intro rfl (And.intro rfl trivial)))
    · skip
      replace h := cF g3 h
      refine Exists.intro none ?_
      obtain ⟨y12_2, e12_2, h⟩ := bS h
      refine Exists.intro _ (Exists.intro _ (And.intro (Contract.wk (c_wide_Sub (api_Wide.mk v2_b1x1_0 v2_b1x1_1) (api_Wide.mk v2_b1x0_0 v2_b1x0_1) y12_2 e12_2) (And.intro rfl (And.intro rfl (And.intro rfl (And.intro rfl trivial))))) (And.intro rfl ?_)))
      refine Exists.intro none ?_
      replace h := Option.some.inj h
      first | subst h | rw [← h]
      exact (And.intro rfl (And.intro rfl (And.intro rfl trivial)))

theorem c_exact_minus (p0 : exact_quad) (p1 : exact_quad) (r : exact_quad) (h : exact_minus p0 p1 = some r) : Contract Try.prog 59 [.agg [.int .u64 p0.e0, .int .u64 p0.e1, .int .u64 p0.e2, .int .u64 p0.e3], .agg [.int .u64 p1.e0, .int .u64 p1.e1, .int .u64 p1.e2, .int .u64 p1.e3]] [] (.agg [.int .u64 r.e0, .int .u64 r.e1, .int .u64 r.e2, .int .u64 r.e3]) [] := by
  refine contract_of_vcs tab_ok orders_ok Try.func59 Try.call59 (by kernel_rfl) 0 rfl rfl _ rfl ?_
  delta exact_minus at h
  refine Exists.intro none ?_
  refine Exists.intro none ?_
  refine Exists.intro none ?_
  replace h : exact_minus_l2 p1 (0:Int) (0:Int) p0.e0 p0.e1 p0.e2 p0.e3 = some r := h
  delta exact_minus_l2 at h
  obtain ⟨n1, h⟩ := loopS h
  refine Exists.intro ⟨(Int × Int × Int × Int × Int × Int) × Nat, fun q => [(.tmp 2, .av (.ptr 0 0)), (.tmp 3, .av (.ptr 1 0)), (.tmp 4, .av (.ptr 2 0)), (.tmp 5, .av (.int .u64 q.1.1)), (.tmp 7, .av (.int .i64 q.1.2.1)), (.box 0, .box [.int .u64 q.1.2.2.1, .int .u64 q.1.2.2.2.1, .int .u64 q.1.2.2.2.2.1, .int .u64 q.1.2.2.2.2.2]), (.box 1, .box [.int .u64 p1.e0, .int .u64 p1.e1, .int .u64 p1.e2, .int .u64 p1.e3]), (.box 2, .box [.int .u64 (0:Int), .int .u64 (0:Int), .int .u64 (0:Int), .int .u64 (0:Int)])], fun q => loopN (fun (s : (Int × Int × Int × Int × Int × Int)) => exact_minus_l2s p1 s.1 s.2.1 s.2.2.1 s.2.2.2.1 s.2.2.2.2.1 s.2.2.2.2.2) q.2 q.1 = some r, fun q => q.2⟩ (And.intro (Exists.intro [] (Exists.intro [] (Exists.intro (((0:Int), (0:Int), p0.e0, p0.e1, p0.e2, p0.e3), n1) (And.intro h (And.intro rfl (And.intro rfl (And.intro rfl (And.intro rfl (And.intro rfl (And.intro rfl (And.intro rfl (And.intro rfl (And.intro rfl (And.intro rfl (And.intro rfl (And.intro rfl (And.intro rfl (And.intro rfl (And.intro rfl trivial))))))))))))))))))) ?_)
  clear h
  refine fun q h => ?_
  obtain ⟨⟨v2_5, v2_7, v2_b0x0_0, v2_b0x0_1, v2_b0x0_2, v2_b0x0_3⟩, n1⟩ := q
  obtain ⟨m1, x1, hm1, h, hl1, hr1⟩ := loopN_step h
  replace hm1 : n1 = m1 + 1 := hm1
  subst hm1
  replace h : exact_minus_l2s p1 v2_5 v2_7 v2_b0x0_0 v2_b0x0_1 v2_b0x0_2 v2_b0x0_3 = some x1 := h
  delta exact_minus_l2s at h
  refine Exists.intro none ?_
  refine And.intro (fun g1 => ?_) (fun g1 => ?_)
  · skip
    replace h := cT g1 h
    refine Exists.intro none ?_
    refine Exists.intro none ?_
    obtain ⟨x5_2, e5_2, h⟩ := bS h
    obtain ⟨x5_3, e5_3, h⟩ := bS h
    obtain ⟨x5_5, e5_5, h⟩ := bS h
    obtain ⟨x5_6, e5_6, h⟩ := bS h
    obtain ⟨y5_8, e5_8, h⟩ := bS h
    obtain ⟨x5_12, e5_12, h⟩ := bS h
    obtain ⟨x5_13, e5_13, h⟩ := bS h
    refine And.intro (idx_lt (eI .u64) e5_2) ?_
    refine Exists.intro [.int .u64 x5_3] (And.intro (idx_elt (eI .u64) e5_3) ?_)
    refine And.intro (idx_lt (eI .u64) e5_5) ?_
    refine Exists.intro [.int .u64 x5_6] (And.intro (idx_elt (eI .u64) e5_6) ?_)
    refine Exists.intro _ (Exists.intro _ (And.intro (Contract.wk (c_math_bits_Sub64 x5_3 x5_6 v2_5 y5_8 e5_8) (And.intro rfl (And.intro rfl (And.intro rfl trivial)))) (And.intro rfl ?_)))
    refine And.intro (idx_lt (eI .u64) e5_12) ?_
    refine And.intro (idx_ltN (AV.int .u64) e5_13) ?_
    refine Exists.intro none ?_
    exact Exists.intro [] (Exists.intro [] (Exists.intro ((y5_8.2, (w64 (v2_7 + (1:Int))), (if (v2_7).toNat = 0 then y5_8.1 else v2_b0x0_0), (if (v2_7).toNat = 1 then y5_8.1 else v2_b0x0_1), (if (v2_7).toNat = 2 then y5_8.1 else v2_b0x0_2), (if (v2_7).toNat = 3 then y5_8.1 else v2_b0x0_3)), m1) (And.intro (hl1 (y5_8.2, (w64 (v2_7 + (1:Int))), (if (v2_7).toNat = 0 then y5_8.1 else v2_b0x0_0), (if (v2_7).toNat = 1 then y5_8.1 else v2_b0x0_1), (if (v2_7).toNat = 2 then y5_8.1 else v2_b0x0_2), (if (v2_7).toNat = 3 then y5_8.1 else v2_b0x0_3)) (Option.some.inj h).symm) (And.intro (Nat.lt_succ_self m1) (And.intro rfl (And.intro rfl (And.intro rfl (And.intro rfl (And.intro rfl (And.intro rfl (And.intro rfl (And.intro rfl (And.intro rfl (And.intro rfl (And.intro rfl (And.intro rfl (And.intro rfl (And.intro rfl (And.intro rfl trivial)))))))))))))))))))
  · skip
    replace h := cF g1 h
    replace h := popS h hr1
    refine Exists.intro none ?_
    replace h := Option.some.inj h
    first | subst h | rw [← h]
    exact (And.intro rfl (And.intro rfl (And.intro rfl (And.intro rfl trivial))))

theorem c_math_bits_LeadingZeros64 (p0 : Int) (r : Int) (h : math_bits_LeadingZeros64 p0 = some r) : Contract Try.prog 107 [.int .u64 p0] [] (.int .i64 r) [] := by
  refine contract_of_vcs tab_ok orders_ok Try.func107 Try.call107 (by kernel_rfl) 0 rfl rfl _ rfl ?_
  delta math_bits_LeadingZeros64 at h
  refine Exists.intro none ?_
  refine Exists.intro none ?_
  obtain ⟨y1_1, e1_1, h⟩ := bS h
  refine Exists.intro _ (Exists.intro _ (And.intro (Contract.wk (c_math_bits_Len64 p0 y1_1 e1_1) (And.intro rfl trivial)) (And.intro rfl ?_)))
  replace h := Option.some.inj h
  first | subst h | rw [← h]
  exact (And.intro rfl trivial)

theorem c_math_bits_Div64 (p0 : Int) (p1 : Int) (p2 : Int) (r : (Int × Int)) (h : math_bits_Div64 p0 p1 p2 = some r) : Contract Try.prog 89 [.int .u64 p0, .int .u64 p1, .int .u64 p2] [] (.tup [.int .u64 r.1, .int .u64 r.2]) [] := by
  refine contract_of_vcs tab_ok orders_ok Try.func89 Try.call89 (by kernel_rfl) 0 rfl rfl _ rfl ?_
  delta math_bits_Div64 at h
  refine Exists.intro none ?_
  refine Exists.intro none ?_
  refine Exists.intro none ?_
  refine And.intro (fun g1 => ?_) (fun g1 => ?_)
  · skip
    replace h := cT g1 h
    cases h
  · skip
    replace h := cF g1 h
    refine Exists.intro none ?_
    refine Exists.intro none ?_
    refine And.intro (fun g2 => ?_) (fun g2 => ?_)
    · skip
      replace h := cT g2 h
      cases h
    · skip
      replace h := cF g2 h
      refine Exists.intro none ?_
      refine And.intro (fun g3 => ?_) (fun g3 => ?_)
      · skip
        replace h := cT g3 h
        refine Exists.intro none ?_
        obtain ⟨k6_2, h⟩ := ckS h
        obtain ⟨k6_5, h⟩ := ckS h
        refine And.intro (of_decide_eq_true k6_2) ?_
        refine And.intro (of_decide_eq_true k6_5) ?_
        replace h := Option.some.inj h
        first | subst h | rw [← h]
        exact (And.intro rfl (And.intro rfl trivial))
      · skip
        replace h := cF g3 h
        refine Exists.intro none ?_
        obtain ⟨y7_1, e7_1, h⟩ := bS h
        refine Exists.intro _ (Exists.intro _ (And.intro (Contract.wk (c_math_bits_LeadingZeros64 p2 y7_1 e7_1) (And.intro rfl trivial)) (And.intro rfl ?_)))
        refine Exists.intro none ?_
        obtain ⟨k8_2, h⟩ := ckS h
        refine And.intro (of_decide_eq_true k8_2) ?_
        refine Exists.intro none ?_
        refine And.intro (by decide) ?_
        refine Exists.intro none ?_
        refine Exists.intro none ?_
        obtain ⟨k11_2, h⟩ := ckS h
        obtain ⟨k11_6, h⟩ := ckS h
        refine And.intro (of_decide_eq_true k11_2) ?_
        refine And.intro (of_decide_eq_true k11_6) ?_
        refine Exists.intro none ?_
        obtain ⟨k12_2, h⟩ := ckS h
        refine And.intro (of_decide_eq_true k12_2) ?_
        refine Exists.intro none ?_
        refine And.intro (by decide) ?_
        refine Exists.intro none ?_
        refine Exists.intro none ?_
        obtain ⟨k15_2, h⟩ := ckS h
        refine And.intro (of_decide_eq_true k15_2) ?_
        refine Exists.intro none ?_
        refine Exists.intro (some (⟨Int, fun j4_15 => [(.tmp 2, .av (.int .u64 (ishl .u64 p2 (wu64 y7_1)))), (.tmp 8, .av (.int .u64 (wu64 y7_1))), (.tmp 9, .av (.int .u64 (ishr .u64 (ishl .u64 p2 (wu64 y7_1)) (32:Int)))), (.tmp 10, .av (.int .u64 (iand .u64 (ishl .u64 p2 (wu64 y7_1)) (4294967295:Int)))), (.tmp 11, .av (.int .u64 (ior .u64 (ishl .u64 p0 (wu64 y7_1)) (ishr .u64 p1 (wu64 ((64:Int) - (wu64 y7_1))))))), (.tmp 13, .av (.int .u64 (ishr .u64 (ishl .u64 p1 (wu64 y7_1)) (32:Int)))), (.tmp 14, .av (.int .u64 (iand .u64 (ishl .u64 p1 (wu64 y7_1)) (4294967295:Int)))), (.tmp 15, .av (.int .u64 j4_15))], fun j4_15 => math_bits_Div64_j4 p0 p1 p2 y7_1 j4_15 = some r, fun _ => 0⟩, 1000000)) (And.intro ?_ ?_)
        · skip
          replace h : math_bits_Div64_l5 p0 p1 p2 y7_1 (wu64 (Int.tdiv (ior .u64 (ishl .u64 p0 (wu64 y7_1)) (ishr .u64 p1 (wu64 ((64:Int) - (wu64 y7_1))))) (ishr .u64 (ishl .u64 p2 (wu64 y7_1)) (32:Int)))) (wu64 ((ior .u64 (ishl .u64 p0 (wu64 y7_1)) (ishr .u64 p1 (wu64 ((64:Int) - (wu64 y7_1))))) - (wu64 ((wu64 (Int.tdiv (ior .u64 (ishl .u64 p0 (wu64 y7_1)) (ishr .u64 p1 (wu64 ((64:Int) - (wu64 y7_1))))) (ishr .u64 (ishl .u64 p2 (wu64 y7_1)) (32:Int)))) * (ishr .u64 (ishl .u64 p2 (wu64 y7_1)) (32:Int)))))) = some r := h
          delta math_bits_Div64_l5 at h
          obtain ⟨n1, h⟩ := loopS h
          refine Exists.intro ⟨(Int × Int) × Nat, fun q => [(.tmp 2, .av (.int .u64 (ishl .u64 p2 (wu64 y7_1)))), (.tmp 8, .av (.int .u64 (wu64 y7_1))), (.tmp 9, .av (.int .u64 (ishr .u64 (ishl .u64 p2 (wu64 y7_1)) (32:Int)))), (.tmp 10, .av (.int .u64 (iand .u64 (ishl .u64 p2 (wu64 y7_1)) (4294967295:Int)))), (.tmp 11, .av (.int .u64 (ior .u64 (ishl .u64 p0 (wu64 y7_1)) (ishr .u64 p1 (wu64 ((64:Int) - (wu64 y7_1))))))), (.tmp 13, .av (.int .u64 (ishr .u64 (ishl .u64 p1 (wu64 y7_1)) (32:Int)))), (.tmp 14, .av (.int .u64 (iand .u64 (ishl .u64 p1 (wu64 y7_1)) (4294967295:Int)))), (.tmp 15, .av (.int .u64 q.1.1)), (.tmp 16, .av (.int .u64 q.1.2))], fun q => loopN (fun (s : (Int × Int)) => math_bits_Div64_l5s p0 p1 p2 y7_1 s.1 s.2) q.2 q.1 = some r, fun q => q.2⟩ (And.intro (Exists.intro [] (Exists.intro [] (Exists.intro (((wu64 (Int.tdiv (ior .u64 (ishl .u64 p0 (wu64 y7_1)) (ishr .u64 p1 (wu64 ((64:Int) - (wu64 y7_1))))) (ishr .u64 (ishl .u64 p2 (wu64 y7_1)) (32:Int)))), (wu64 ((ior .u64 (ishl .u64 p0 (wu64 y7_1)) (ishr .u64 p1 (wu64 ((64:Int) - (wu64 y7_1))))) - (wu64 ((wu64 (Int.tdiv (ior .u64 (ishl .u64 p0 (wu64 y7_1)) (ishr .u64 p1 (wu64 ((64:Int) - (wu64 y7_1))))) (ishr .u64 (ishl .u64 p2 (wu64 y7_1)) (32:Int)))) * (ishr .u64 (ishl .u64 p2 (wu64 y7_1)) (32:Int))))))), n1) (And.intro h (And.intro rfl (And.intro rfl (And.intro rfl (And.intro rfl (And.intro rfl (And.intro rfl (And.intro rfl (And.intro rfl (And.intro rfl (And.intro rfl trivial)))))))))))))) ?_)
          clear h
          refine fun q h => ?_
          obtain ⟨⟨v5_15, v5_16⟩, n1⟩ := q
          obtain ⟨m1, x1, hm1, h, hl1, hr1⟩ := loopN_step h
          replace hm1 : n1 = m1 + 1 := hm1
          subst hm1
          replace h : math_bits_Div64_l5s p0 p1 p2 y7_1 v5_15 v5_16 = some x1 := h
          delta math_bits_Div64_l5s at h
          refine Exists.intro none ?_
          refine Exists.intro (some (⟨Unit, fun _ => [(.tmp 2, .av (.int .u64 (ishl .u64 p2 (wu64 y7_1)))), (.tmp 8, .av (.int .u64 (wu64 y7_1))), (.tmp 9, .av (.int .u64 (ishr .u64 (ishl .u64 p2 (wu64 y7_1)) (32:Int)))), (.tmp 10, .av (.int .u64 (iand .u64 (ishl .u64 p2 (wu64 y7_1)) (4294967295:Int)))), (.tmp 11, .av (.int .u64 (ior .u64 (ishl .u64 p0 (wu64 y7_1)) (ishr .u64 p1 (wu64 ((64:Int) - (wu64 y7_1))))))), (.tmp 13, .av (.int .u64 (ishr .u64 (ishl .u64 p1 (wu64 y7_1)) (32:Int)))), (.tmp 14, .av (.int .u64 (iand .u64 (ishl .u64 p1 (wu64 y7_1)) (4294967295:Int)))), (.tmp 15, .av (.int .u64 v5_15)), (.tmp 16, .av (.int .u64 v5_16)), (.tmp 78, .av (.sb ((decide (v5_15 ≥ (4294967296:Int))) || (decide ((wu64 (v5_15 * (iand .u64 (ishl .u64 p2 (wu64 y7_1)) (4294967295:Int)))) > (wu64 ((wu64 ((4294967296:Int) * v5_16)) + (ishr .u64 (ishl .u64 p1 (wu64 y7_1)) (32:Int)))))))))], fun _ => True, fun _ => 0⟩, 1000000)) (And.intro ?_ (fun _ _ => ?_))
          · skip
            refine And.intro (fun g4 => ?_) (fun g4 => ?_)
            · skip
              exact Exists.intro [] (Exists.intro [] (Exists.intro () (And.intro trivial (And.intro rfl (And.intro rfl (And.intro rfl (And.intro rfl (And.intro rfl (And.intro rfl (And.intro rfl (And.intro rfl (And.intro rfl (And.intro rfl (And.intro (Eq.symm (oR g4 rfl)) trivial))))))))))))))
            · skip
              exact Exists.intro [] (Exists.intro [] (Exists.intro () (And.intro trivial (And.intro rfl (And.intro rfl (And.intro rfl (And.intro rfl (And.intro rfl (And.intro rfl (And.intro rfl (And.intro rfl (And.intro rfl (And.intro rfl (And.intro (Eq.symm (oL g4)) trivial))))))))))))))
          · skip
            refine And.intro (fun g5 => ?_) (fun g5 => ?_)
            · skip
              replace h := cT g5 h
              refine Exists.intro none ?_
              refine Exists.intro none ?_
              refine Exists.intro none ?_
              refine And.intro (fun g6 => ?_) (fun g6 => ?_)
              · skip
                replace h := cT g6 h
                replace h := popS h hr1
                exact Exists.intro [] (Exists.intro [] (Exists.intro (wu64 (v5_15 - (1:Int))) (And.intro h (And.intro rfl (And.intro rfl (And.intro rfl (And.intro rfl (And.intro rfl (And.intro rfl (And.intro rfl (And.intro rfl (And.intro rfl trivial))))))))))))
              · skip
                replace h := cF g6 h
                exact Exists.intro [] (Exists.intro [] (Exists.intro (((wu64 (v5_15 - (1:Int))), (wu64 (v5_16 + (ishr .u64 (ishl .u64 p2 (wu64 y7_1)) (32:Int))))), m1) (And.intro (hl1 ((wu64 (v5_15 - (1:Int))), (wu64 (v5_16 + (ishr .u64 (ishl .u64 p2 (wu64 y7_1)) (32:Int))))) (Option.some.inj h).symm) (And.intro (Nat.lt_succ_self m1) (And.intro rfl (And.intro rfl (And.intro rfl (And.intro rfl (And.intro rfl (And.intro rfl (And.intro rfl (And.intro rfl (And.intro rfl (And.intro rfl trivial))))))))))))))
            · skip
              replace h := cF g5 h
              replace h := popS h hr1
              exact Exists.intro [] (Exists.intro [] (Exists.intro v5_15 (And.intro h (And.intro rfl (And.intro rfl (And.intro rfl (And.intro rfl (And.intro rfl (And.intro rfl (And.intro rfl (And.intro rfl (And.intro rfl trivial))))))))))))
        · skip
          clear h
          refine fun j4_15 h => ?_
          replace h : math_bits_Div64_j4 p0 p1 p2 y7_1 j4_15 = some r := h
          delta math_bits_Div64_j4 at h
          refine Exists.intro none ?_
          refine Exists.intro none ?_
          obtain ⟨k22_2, h⟩ := ckS h
          refine And.intro (of_decide_eq_true k22_2) ?_
          refine Exists.intro none ?_
          refine Exists.intro (some (⟨Int, fun j9_18 => [(.tmp 2, .av (.int .u64 (ishl .u64 p2 (wu64 y7_1)))), (.tmp 8, .av (.int .u64 (wu64 y7_1))), (.tmp 14, .av (.int .u64 (iand .u64 (ishl .u64 p1 (wu64 y7_1)) (4294967295:Int)))), (.tmp 15, .av (.int .u64 j4_15)), (.tmp 17, .av (.int .u64 (wu64 ((wu64 ((wu64 ((ior .u64 (ishl .u64 p0 (wu64 y7_1)) (ishr .u64 p1 (wu64 ((64:Int) - (wu64 y7_1))))) * (4294967296:Int))) + (ishr .u64 (ishl .u64 p1 (wu64 y7_1)) (32:Int)))) - (wu64 (j4_15 * (ishl .u64 p2 (wu64 y7_1)))))))), (.tmp 18, .av (.int .u64 j9_18))], fun j9_18 => math_bits_Div64_j9 p0 p1 p2 y7_1 j4_15 j9_18 = some r, fun _ => 0⟩, 2000000)) (And.intro ?_ ?_)
          · skip
            replace h : math_bits_Div64_l10 p0 p1 p2 y7_1 j4_15 (wu64 ((wu64 ((wu64 ((wu64 ((ior .u64 (ishl .u64 p0 (wu64 y7_1)) (ishr .u64 p1 (wu64 ((64:Int) - (wu64 y7_1))))) * (4294967296:Int))) + (ishr .u64 (ishl .u64 p1 (wu64 y7_1)) (32:Int)))) - (wu64 (j4_15 * (ishl .u64 p2 (wu64 y7_1)))))) - (wu64 ((wu64 (Int.tdiv (wu64 ((wu64 ((wu64 ((ior .u64 (ishl .u64 p0 (wu64 y7_1)) (ishr .u64 p1 (wu64 ((64:Int) - (wu64 y7_1))))) * (4294967296:Int))) + (ishr .u64 (ishl .u64 p1 (wu64 y7_1)) (32:Int)))) - (wu64 (j4_15 * (ishl .u64 p2 (wu64 y7_1)))))) (ishr .u64 (ishl .u64 p2 (wu64 y7_1)) (32:Int)))) * (ishr .u64 (ishl .u64 p2 (wu64 y7_1)) (32:Int)))))) (wu64 (Int.tdiv (wu64 ((wu64 ((wu64 ((ior .u64 (ishl .u64 p0 (wu64 y7_1)) (ishr .u64 p1 (wu64 ((64:Int) - (wu64 y7_1))))) * (4294967296:Int))) + (ishr .u64 (ishl .u64 p1 (wu64 y7_1)) (32:Int)))) - (wu64 (j4_15 * (ishl .u64 p2 (wu64 y7_1)))))) (ishr .u64 (ishl .u64 p2 (wu64 y7_1)) (32:Int)))) = some r := h
            delta math_bits_Div64_l10 at h
            obtain ⟨n1, h⟩ := loopS h
            refine Exists.intro ⟨(Int × Int) × Nat, fun q => [(.tmp 2, .av (.int .u64 (ishl .u64 p2 (wu64 y7_1)))), (.tmp 8, .av (.int .u64 (wu64 y7_1))), (.tmp 9, .av (.int .u64 (ishr .u64 (ishl .u64 p2 (wu64 y7_1)) (32:Int)))), (.tmp 10, .av (.int .u64 (iand .u64 (ishl .u64 p2 (wu64 y7_1)) (4294967295:Int)))), (.tmp 14, .av (.int .u64 (iand .u64 (ishl .u64 p1 (wu64 y7_1)) (4294967295:Int)))), (.tmp 15, .av (.int .u64 j4_15)), (.tmp 16, .av (.int .u64 q.1.1)), (.tmp 17, .av (.int .u64 (wu64 ((wu64 ((wu64 ((ior .u64 (ishl .u64 p0 (wu64 y7_1)) (ishr .u64 p1 (wu64 ((64:Int) - (wu64 y7_1))))) * (4294967296:Int))) + (ishr .u64 (ishl .u64 p1 (wu64 y7_1)) (32:Int)))) - (wu64 (j4_15 * (ishl .u64 p2 (wu64 y7_1)))))))), (.tmp 18, .av (.int .u64 q.1.2))], fun q => loopN (fun (s : (Int × Int)) => math_bits_Div64_l10s p0 p1 p2 y7_1 j4_15 s.1 s.2) q.2 q.1 = some r, fun q => q.2⟩ (And.intro (Exists.intro [] (Exists.intro [] (Exists.intro (((wu64 ((wu64 ((wu64 ((wu64 ((ior .u64 (ishl .u64 p0 (wu64 y7_1)) (ishr .u64 p1 (wu64 ((64:Int) - (wu64 y7_1))))) * (4294967296:Int))) + (ishr .u64 (ishl .u64 p1 (wu64 y7_1)) (32:Int)))) - (wu64 (j4_15 * (ishl .u64 p2 (wu64 y7_1)))))) - (wu64 ((wu64 (Int.tdiv (wu64 ((wu64 ((wu64 ((ior .u64 (ishl .u64 p0 (wu64 y7_1)) (ishr .u64 p1 (wu64 ((64:Int) - (wu64 y7_1))))) * (4294967296:Int))) + (ishr .u64 (ishl .u64 p1 (wu64 y7_1)) (32:Int)))) - (wu64 (j4_15 * (ishl .u64 p2 (wu64 y7_1)))))) (ishr .u64 (ishl .u64 p2 (wu64 y7_1)) (32:Int)))) * (ishr .u64 (ishl .u64 p2 (wu64 y7_1)) (32:Int)))))), (wu64 (Int.tdiv (wu64 ((wu64 ((wu64 ((ior .u64 (ishl .u64 p0 (wu64 y7_1)) (ishr .u64 p1 (wu64 ((64:Int) - (wu64 y7_1))))) * (4294967296:Int))) + (ishr .u64 (ishl .u64 p1 (wu64 y7_1)) (32:Int)))) - (wu64 (j4_15 * (ishl .u64 p2 (wu64 y7_1)))))) (ishr .u64 (ishl .u64 p2 (wu64 y7_1)) (32:Int))))), n1) (And.intro h (And.intro rfl (And.intro rfl (And.intro rfl (And.intro rfl (And.intro rfl (And.intro rfl (And.intro rfl (And.intro rfl (And.intro rfl (And.intro rfl trivial)))))))))))))) ?_)
            clear h
            refine fun q h => ?_
            obtain ⟨⟨v10_16, v10_18⟩, n1⟩ := q
            obtain ⟨m1, x1, hm1, h, hl1, hr1⟩ := loopN_step h
            replace hm1 : n1 = m1 + 1 := hm1
            subst hm1
            replace h : math_bits_Div64_l10s p0 p1 p2 y7_1 j4_15 v10_16 v10_18 = some x1 := h
            delta math_bits_Div64_l10s at h
            refine Exists.intro none ?_
            refine Exists.intro (some (⟨Unit, fun _ => [(.tmp 2, .av (.int .u64 (ishl .u64 p2 (wu64 y7_1)))), (.tmp 8, .av (.int .u64 (wu64 y7_1))), (.tmp 9, .av (.int .u64 (ishr .u64 (ishl .u64 p2 (wu64 y7_1)) (32:Int)))), (.tmp 10, .av (.int .u64 (iand .u64 (ishl .u64 p2 (wu64 y7_1)) (4294967295:Int)))), (.tmp 14, .av (.int .u64 (iand .u64 (ishl .u64 p1 (wu64 y7_1)) (4294967295:Int)))), (.tmp 15, .av (.int .u64 j4_15)), (.tmp 16, .av (.int .u64 v10_16)), (.tmp 17, .av (.int .u64 (wu64 ((wu64 ((wu64 ((ior .u64 (ishl .u64 p0 (wu64 y7_1)) (ishr .u64 p1 (wu64 ((64:Int) - (wu64 y7_1))))) * (4294967296:Int))) + (ishr .u64 (ishl .u64 p1 (wu64 y7_1)) (32:Int)))) - (wu64 (j4_15 * (ishl .u64 p2 (wu64 y7_1)))))))), (.tmp 18, .av (.int .u64 v10_18)), (.tmp 113, .av (.sb ((decide (v10_18 ≥ (4294967296:Int))) || (decide ((wu64 (v10_18 * (iand .u64 (ishl .u64 p2 (wu64 y7_1)) (4294967295:Int)))) > (wu64 ((wu64 ((4294967296:Int) * v10_16)) + (iand .u64 (ishl .u64 p1 (wu64 y7_1)) (4294967295:Int)))))))))], fun _ => True, fun _ => 0⟩, 2000000)) (And.intro ?_ (fun _ _ => ?_))
            · skip
              refine And.intro (fun g7 => ?_) (fun g7 => ?_)
              · skip
                exact Exists.intro [] (Exists.intro [] (Exists.intro () (And.intro trivial (And.intro rfl (And.intro rfl (And.intro rfl (And.intro rfl (And.intro rfl (And.intro rfl (And.intro rfl (And.intro rfl (And.intro rfl (And.intro rfl (And.intro (Eq.symm (oR g7 rfl)) trivial))))))))))))))
              · skip
                exact Exists.intro [] (Exists.intro [] (Exists.intro () (And.intro trivial (And.intro rfl (And.intro rfl (And.intro rfl (And.intro rfl (And.intro rfl (And.intro rfl (And.intro rfl (And.intro rfl (And.intro rfl (And.intro rfl (And.intro (Eq.symm (oL g7)) trivial))))))))))))))
            · skip
              refine And.intro (fun g8 => ?_) (fun g8 => ?_)
              · skip
                replace h := cT g8 h
                refine Exists.intro none ?_
                refine Exists.intro none ?_
                refine Exists.intro none ?_
                refine And.intro (fun g9 => ?_) (fun g9 => ?_)
                · skip
                  replace h := cT g9 h
                  replace h := popS h hr1
                  exact Exists.intro [] (Exists.intro [] (Exists.intro (wu64 (v10_18 - (1:Int))) (And.intro h (And.intro rfl (And.intro rfl (And.intro rfl (And.intro rfl (And.intro rfl (And.intro rfl (And.intro rfl trivial))))))))))
                · skip
                  replace h := cF g9 h
                  exact Exists.intro [] (Exists.intro [] (Exists.intro (((wu64 (v10_16 + (ishr .u64 (ishl .u64 p2 (wu64 y7_1)) (32:Int)))), (wu64 (v10_18 - (1:Int)))), m1) (And.intro (hl1 ((wu64 (v10_16 + (ishr .u64 (ishl .u64 p2 (wu64 y7_1)) (32:Int)))), (wu64 (v10_18 - (1:Int)))) (Option.some.inj h).symm) (And.intro (Nat.lt_succ_self m1) (And.intro rfl (And.intro rfl (And.intro rfl (And.intro rfl (And.intro rfl (And.intro rfl (And.intro rfl (And.intro rfl (And.intro rfl (And.intro rfl trivial))))))))))))))
              · skip
                replace h := cF g8 h
                replace h := popS h hr1
                exact Exists.intro [] (Exists.intro [] (Exists.intro v10_18 (And.intro h (And.intro rfl (And.intro rfl (And.intro rfl (And.intro rfl (And.intro rfl (And.intro rfl (And.intro rfl trivial))))))))))
          · skip
            clear h
            refine fun j9_18 h => ?_
            replace h : math_bits_Div64_j9 p0 p1 p2 y7_1 j4_15 j9_18 = some r := h
            delta math_bits_Div64_j9 at h
            refine Exists.intro none ?_
            obtain ⟨k28_13, h⟩ := ckS h
            refine And.intro (of_decide_eq_true k28_13) ?_
            replace h := Option.some.inj h
            first | subst h | rw [← h]
            exact (And.intro rfl (And.intro rfl trivial))

theorem c_exact_by (p0 : exact_quad) (p1 : Int) (r : (exact_quad × Int)) (h : exact_by p0 p1 = some r) : Contract Try.prog 60 [.agg [.int .u64 p0.e0, .int .u64 p0.e1, .int .u64 p0.e2, .int .u64 p0.e3], .int .u64 p1] [] (.tup [.agg [.int .u64 r.1.e0, .int .u64 r.1.e1, .int .u64 r.1.e2, .int .u64 r.1.e3], .int .u64 r.2]) [] := by
  refine contract_of_vcs tab_ok orders_ok Try.func60 Try.call60 (by kernel_rfl) 0 rfl rfl _ rfl ?_
  delta exact_by at h
  refine Exists.intro none ?_
  refine Exists.intro none ?_
  refine Exists.intro none ?_
  replace h : exact_by_l2 p1 (0:Int) (3:Int) p0.e0 p0.e1 p0.e2 p0.e3 = some r := h
  delta exact_by_l2 at h
  obtain ⟨n1, h⟩ := loopS h
  refine Exists.intro ⟨(Int × Int × Int × Int × Int × Int) × Nat, fun q => [(.tmp 1, .av (.int .u64 p1)), (.tmp 2, .av (.ptr 0 0)), (.tmp 4, .av (.ptr 1 0)), (.tmp 6, .av (.int .u64 q.1.1)), (.tmp 7, .av (.int .i64 q.1.2.1)), (.box 0, .box [.int .u64 q.1.2.2.1, .int .u64 q.1.2.2.2.1, .int .u64 q.1.2.2.2.2.1, .int .u64 q.1.2.2.2.2.2]), (.box 1, .box [.int .u64 (0:Int), .int .u64 (0:Int), .int .u64 (0:Int), .int .u64 (0:Int)])], fun q => loopN (fun (s : (Int × Int × Int × Int × Int × Int)) => exact_by_l2s p1 s.1 s.2.1 s.2.2.1 s.2.2.2.1 s.2.2.2.2.1 s.2.2.2.2.2) q.2 q.1 = some r, fun q => q.2⟩ (And.intro (Exists.intro [] (Exists.intro [] (Exists.intro (((0:Int), (3:Int), p0.e0, p0.e1, p0.e2, p0.e3), n1) (And.intro h (And.intro rfl (And.intro rfl (And.intro rfl (And.intro rfl (And.intro rfl (And.intro rfl (And.intro rfl (And.intro rfl (And.intro rfl (And.intro rfl (And.intro rfl (And.intro rfl trivial)))))))))))))))) ?_)
  clear h
  refine fun q h => ?_
  obtain ⟨⟨v2_6, v2_7, v2_b0x0_0, v2_b0x0_1, v2_b0x0_2, v2_b0x0_3⟩, n1⟩ := q
  obtain ⟨m1, x1, hm1, h, hl1, hr1⟩ := loopN_step h
  replace hm1 : n1 = m1 + 1 := hm1
  subst hm1
  replace h : exact_by_l2s p1 v2_6 v2_7 v2_b0x0_0 v2_b0x0_1 v2_b0x0_2 v2_b0x0_3 = some x1 := h
  delta exact_by_l2s at h
  refine Exists.intro none ?_
  refine And.intro (fun g1 => ?_) (fun g1 => ?_)
  · skip
    replace h := cT g1 h
    refine Exists.intro none ?_
    obtain ⟨x5_3, e5_3, h⟩ := bS h
    obtain ⟨x5_4, e5_4, h⟩ := bS h
    obtain ⟨y5_6, e5_6, h⟩ := bS h
    obtain ⟨x5_10, e5_10, h⟩ := bS h
    obtain ⟨x5_11, e5_11, h⟩ := bS h
    refine And.intro (idx_lt (eI .u64) e5_3) ?_
    refine Exists.intro [.int .u64 x5_4] (And.intro (idx_elt (eI .u64) e5_4) ?_)
    refine Exists.intro _ (Exists.intro _ (And.intro (Contract.wk (c_math_bits_Div64 v2_6 x5_4 p1 y5_6 e5_6) (And.intro rfl (And.intro rfl (And.intro rfl trivial)))) (And.intro rfl ?_)))
    refine And.intro (idx_lt (eI .u64) e5_10) ?_
    refine And.intro (idx_ltN (AV.int .u64) e5_11) ?_
    refine Exists.intro none ?_
    exact Exists.intro [] (Exists.intro [] (Exists.intro ((y5_6.2, (w64 (v2_7 - (1:Int))), (if (v2_7).toNat = 0 then y5_6.1 else v2_b0x0_0), (if (v2_7).toNat = 1 then y5_6.1 else v2_b0x0_1), (if (v2_7).toNat = 2 then y5_6.1 else v2_b0x0_2), (if (v2_7).toNat = 3 then y5_6.1 else v2_b0x0_3)), m1) (And.intro (hl1 (y5_6.2, (w64 (v2_7 - (1:Int))), (if (v2_7).toNat = 0 then y5_6.1 else v2_b0x0_0), (if (v2_7).toNat = 1 then y5_6.1 else v2_b0x0_1), (if (v2_7).toNat = 2 then y5_6.1 else v2_b0x0_2), (if (v2_7).toNat = 3 then y5_6.1 else v2_b0x0_3)) (Option.some.inj h).symm) (And.intro (Nat.lt_succ_self m1) (And.intro rfl (And.intro rfl (And.intro rfl (And.intro rfl (And.intro rfl (And.intro rfl (And.intro rfl (And.intro rfl (And.intro rfl (And.intro rfl (And.intro rfl (And.intro rfl trivial))))))))))))))))
  · skip
    replace h := cF g1 h
    replace h := popS h hr1
    refine Exists.intro none ?_
    replace h := Option.some.inj h
    first | subst h | rw [← h]
    exact (And.intro rfl (And.intro rfl (And.intro rfl (And.intro rfl (And.intro rfl trivial)))))

theorem c_num_Gcd (p0 : Int) (p1 : Int) (r : Int) (h : num_Gcd p0 p1 = some r) : Contract Try.prog 61 [.int .i64 p0, .int .i64 p1] [] (.int .i64 r) [] := by
  refine contract_of_vcs tab_ok orders_ok Try.func61 Try.call61 (by kernel_rfl) 0 rfl rfl _ rfl ?_
  delta num_Gcd at h
  refine Exists.intro none ?_
  refine Exists.intro none ?_
  refine Exists.intro none ?_
  refine And.intro (fun g1 => ?_) (fun g1 => ?_)
  · skip
    refine And.intro (fun g2 => ?_) (fun g2 => ?_)
    · skip
      replace h := cT (oR g1 g2) h
      refine Exists.intro none ?_
      replace h := Option.some.inj h
      first | subst h | rw [← h]
      exact (And.intro rfl trivial)
    · skip
      replace h := cF (oR g1 g2) h
      replace h : num_Gcd_l3 p0 p1 = some r := h
      delta num_Gcd_l3 at h
      obtain ⟨n1, h⟩ := loopS h
      refine Exists.intro ⟨(Int × Int) × Nat, fun q => [(.tmp 0, .av (.int .i64 q.1.1)), (.tmp 1, .av (.int .i64 q.1.2))], fun q => loopN (fun (s : (Int × Int)) => num_Gcd_l3s s.1 s.2) q.2 q.1 = some r, fun q => q.2⟩ (And.intro (Exists.intro [] (Exists.intro [] (Exists.intro ((p0, p1), n1) (And.intro h (And.intro rfl (And.intro rfl (And.intro rfl trivial))))))) ?_)
      clear h
      refine fun q h => ?_
      obtain ⟨⟨v3_0, v3_1⟩, n1⟩ := q
      obtain ⟨m1, x1, hm1, h, hl1, hr1⟩ := loopN_step h
      replace hm1 : n1 = m1 + 1 := hm1
      subst hm1
      replace h : num_Gcd_l3s v3_0 v3_1 = some x1 := h
      delta num_Gcd_l3s at h
      refine Exists.intro none ?_
      refine And.intro (fun g3 => ?_) (fun g3 => ?_)
      · skip
        replace h := cT g3 h
        refine Exists.intro none ?_
        obtain ⟨k4_3, h⟩ := ckS h
        refine And.intro (of_decide_eq_true k4_3) ?_
        exact Exists.intro [] (Exists.intro [] (Exists.intro ((v3_1, (Int.tmod v3_0 v3_1)), m1) (And.intro (hl1 (v3_1, (Int.tmod v3_0 v3_1)) (Option.some.inj h).symm) (And.intro (Nat.lt_succ_self m1) (And.intro rfl (And.intro rfl (And.intro rfl trivial)))))))
      · skip
        replace h := cF g3 h
        replace h := popS h hr1
        refine Exists.intro none ?_
        replace h := Option.some.inj h
        first | subst h | rw [← h]
        exact (And.intro rfl trivial)
  · skip
    replace h := cT (oL g1) h
    refine Exists.intro none ?_
    replace h := Option.some.inj h
    first | subst h | rw [← h]
    exact (And.intro rfl trivial)

theorem c_exact_Spread (p0 : (List api_Item)) (r : (api_Ratio × Bool)) (h : exact_Spread p0 = some r) : Contract Try.prog 25 [.lst 2 false (List.map enc_api_Item p0)] [] (.tup [.agg [.int .i64 r.1.Num, .int .i64 r.1.Den], .sb r.2]) [] := by
  refine contract_of_vcs tab_ok orders_ok Try.func25 Try.call25 (by kernel_rfl) 0 rfl rfl _ rfl ?_
  delta exact_Spread at h
  refine Exists.intro none ?_
  refine Exists.intro none ?_
  refine Exists.intro [.int .i64 (p0.length : Int)] (And.intro (lenS enc_api_Item p0) ?_)
  refine Exists.intro none ?_
  refine And.intro (fun g1 => ?_) (fun g1 => ?_)
  · skip
    replace h := cT g1 h
    refine Exists.intro none ?_
    replace h := Option.some.inj h
    first | subst h | rw [← h]
    exact (And.intro rfl (And.intro rfl (And.intro rfl trivial)))
  · skip
    replace h := cF g1 h
    refine Exists.intro none ?_
    refine Exists.intro none ?_
    refine Exists.intro [.int .i64 (p0.length : Int)] (And.intro (lenS enc_api_Item p0) ?_)
    replace h : exact_Spread_l3 p0 (0:Int) (0:Int) (0:Int) (0:Int) (0:Int) = some r := h
    delta exact_Spread_l3 at h
    obtain ⟨n1, h⟩ := loopS h
    refine Exists.intro ⟨(Int × Int × Int × Int × Int) × Nat, fun q => [(.tmp 0, .av (.lst 2 false (List.map enc_api_Item p0))), (.tmp 2, .av (.ptr 0 0)), (.tmp 4, .av (.int .u64 (wu64 (p0.length : Int)))), (.tmp 5, .av (.ptr 768 0)), (.tmp 6, .av (.ptr 769 0)), (.tmp 7, .av (.ptr 770 0)), (.tmp 23, .av (.lst 2 false (List.map enc_api_Item p0))), (.tmp 24, .av (.int .i64 (p0.length : Int))), (.tmp 25, .av (.int .i64 q.1.1)), (.box 0, .box [.int .i64 (0:Int), .int .i64 (0:Int)]), (.box 768, .box [.int .u64 q.1.2.1, .int .u64 q.1.2.2.1, .int .u64 q.1.2.2.2.1, .int .u64 q.1.2.2.2.2]), (.box 769, .box [.int .u64 (0:Int), .int .u64 (0:Int), .int .u64 (0:Int), .int .u64 (0:Int)]), (.box 770, .box [.int .u64 (0:Int), .int .u64 (0:Int), .int .u64 (0:Int), .int .u64 (0:Int)])], fun q => loopN (fun (s : (Int × Int × Int × Int × Int)) => exact_Spread_l3s p0 s.1 s.2.1 s.2.2.1 s.2.2.2.1 s.2.2.2.2) q.2 q.1 = some r, fun q => q.2⟩ (And.intro (Exists.intro [] (Exists.intro [] (Exists.intro (((0:Int), (0:Int), (0:Int), (0:Int), (0:Int)), n1) (And.intro h (And.intro rfl (And.intro ff (And.intro rfl (And.intro rfl (And.intro ff (And.intro rfl (And.intro rfl (And.intro rfl (And.intro rfl (And.intro rfl (And.intro rfl (And.intro rfl (And.intro rfl (And.intro rfl (And.intro rfl (And.intro rfl (And.intro rfl (And.intro rfl (And.intro rfl (And.intro rfl (And.intro rfl (And.intro rfl trivial)))))))))))))))))))))))))) ?_)
    clear h
    refine fun q h => ?_
    obtain ⟨⟨v3_25, v3_b4x0_0, v3_b4x0_1, v3_b4x0_2, v3_b4x0_3⟩, n1⟩ := q
    obtain ⟨m1, x1, hm1, h, hl1, hr1⟩ := loopN_step h
    replace hm1 : n1 = m1 + 1 := hm1
    subst hm1
    replace h : exact_Spread_l3s p0 v3_25 v3_b4x0_0 v3_b4x0_1 v3_b4x0_2 v3_b4x0_3 = some x1 := h
    delta exact_Spread_l3s at h
    refine Exists.intro none ?_
    refine And.intro (fun g2 => ?_) (fun g2 => ?_)
    · skip
      replace h := cT g2 h
      refine Exists.intro none ?_
      obtain ⟨x7_0, e7_0, h⟩ := bS h
      refine Exists.intro [.int .i64 x7_0.T, .int .i64 x7_0.V] (And.intro (idx_map enc_api_Item e7_0) ?_)
      refine Exists.intro none ?_
      obtain ⟨y8_6, e8_6, h⟩ := bS h
      refine Exists.intro _ (Exists.intro _ (And.intro (Contract.wk (c_exact_size x7_0.V) (And.intro rfl trivial)) (And.intro rfl ?_)))
      refine Exists.intro _ (Exists.intro _ (And.intro (Contract.wk (c_exact_size x7_0.V) (And.intro rfl trivial)) (And.intro rfl ?_)))
      refine Exists.intro _ (Exists.intro _ (And.intro (Contract.wk (c_exact_quad_times (exact_quad.mk v3_b4x0_0 v3_b4x0_1 v3_b4x0_2 v3_b4x0_3) (exact_size x7_0.V) (exact_size x7_0.V) (0:Int) y8_6 e8_6) (And.intro rfl (And.intro rfl (And.intro rfl (And.intro rfl (And.intro rfl (And.intro rfl (And.intro rfl trivial)))))))) (And.intro rfl ?_)))
      refine Exists.intro none ?_
      exact Exists.intro [] (Exists.intro [] (Exists.intro (((w64 (v3_25 + (1:Int))), y8_6.e0, y8_6.e1, y8_6.e2, y8_6.e3), m1) (And.intro (hl1 ((w64 (v3_25 + (1:Int))), y8_6.e0, y8_6.e1, y8_6.e2, y8_6.e3) (Option.some.inj h).symm) (And.intro (Nat.lt_succ_self m1) (And.intro rfl (And.intro ff (And.intro rfl (And.intro rfl (And.intro ff (And.intro rfl (And.intro rfl (And.intro rfl (And.intro rfl (And.intro rfl (And.intro rfl (And.intro rfl (And.intro rfl (And.intro rfl (And.intro rfl (And.intro rfl (And.intro rfl (And.intro rfl (And.intro rfl (And.intro rfl (And.intro rfl (And.intro rfl trivial))))))))))))))))))))))))))
    · skip
      replace h := cF g2 h
      replace h := popS h hr1
      refine Exists.intro none ?_
      replace h : exact_Spread_l7 p0 v3_b4x0_0 v3_b4x0_1 v3_b4x0_2 v3_b4x0_3 (0:Int) (0:Int) (0:Int) (0:Int) (0:Int) = some r := h
      delta exact_Spread_l7 at h
      obtain ⟨n1, h⟩ := loopS h
      refine Exists.intro ⟨(Int × Int × Int × Int × Int) × Nat, fun q => [(.tmp 0, .av (.lst 2 false (List.map enc_api_Item p0))), (.tmp 2, .av (.ptr 0 0)), (.tmp 4, .av (.int .u64 (wu64 (p0.length : Int)))), (.tmp 5, .av (.ptr 768 0)), (.tmp 6, .av (.ptr 769 0)), (.tmp 7, .av (.ptr 770 0)), (.tmp 10, .av (.int .i64 q.1.1)), (.box 0, .box [.int .i64 (0:Int), .int .i64 (0:Int)]), (.box 768, .box [.int .u64 v3_b4x0_0, .int .u64 v3_b4x0_1, .int .u64 v3_b4x0_2, .int .u64 v3_b4x0_3]), (.box 769, .box [.int .u64 q.1.2.1, .int .u64 q.1.2.2.1, .int .u64 q.1.2.2.2.1, .int .u64 q.1.2.2.2.2]), (.box 770, .box [.int .u64 (0:Int), .int .u64 (0:Int), .int .u64 (0:Int), .int .u64 (0:Int)])], fun q => loopN (fun (s : (Int × Int × Int × Int × Int)) => exact_Spread_l7s p0 v3_b4x0_0 v3_b4x0_1 v3_b4x0_2 v3_b4x0_3 s.1 s.2.1 s.2.2.1 s.2.2.2.1 s.2.2.2.2) q.2 q.1 = some r, fun q => q.2⟩ (And.intro (Exists.intro [] (Exists.intro [] (Exists.intro (((0:Int), (0:Int), (0:Int), (0:Int), (0:Int)), n1) (And.intro h (And.intro rfl (And.intro ff (And.intro rfl (And.intro rfl (And.intro rfl (And.intro rfl (And.intro rfl (And.intro rfl (And.intro rfl (And.intro rfl (And.intro rfl (And.intro rfl (And.intro rfl (And.intro rfl (And.intro rfl (And.intro rfl (And.intro rfl (And.intro rfl (And.intro rfl trivial))))))))))))))))))))))) ?_)
      clear h
      refine fun q h => ?_
      obtain ⟨⟨v7_10, v7_b4x1_0, v7_b4x1_1, v7_b4x1_2, v7_b4x1_3⟩, n1⟩ := q
      obtain ⟨m1, x1, hm1, h, hl1, hr1⟩ := loopN_step h
      replace hm1 : n1 = m1 + 1 := hm1
      subst hm1
      replace h : exact_Spread_l7s p0 v3_b4x0_0 v3_b4x0_1 v3_b4x0_2 v3_b4x0_3 v7_10 v7_b4x1_0 v7_b4x1_1 v7_b4x1_2 v7_b4x1_3 = some x1 := h
      delta exact_Spread_l7s at h
      refine Exists.intro none ?_
      refine And.intro (fun g3 => ?_) (fun g3 => ?_)
      · skip
        replace h := cT g3 h
        refine Exists.intro none ?_
        obtain ⟨x13_1, e13_1, h⟩ := bS h
        obtain ⟨x13_2, e13_2, h⟩ := bS h
        obtain ⟨y13_5, e13_5, h⟩ := bS h
        refine And.intro (idx_lt (eI .u64) e13_1) ?_
        refine Exists.intro [.int .u64 x13_2] (And.intro (idx_elt (eI .u64) e13_2) ?_)
        refine Exists.intro _ (Exists.intro _ (And.intro (Contract.wk (c_exact_quad_times (exact_quad.mk v7_b4x1_0 v7_b4x1_1 v7_b4x1_2 v7_b4x1_3) x13_2 (wu64 (p0.length : Int)) v7_10 y13_5 e13_5) (And.intro rfl (And.intro rfl (And.intro rfl (And.intro rfl (And.intro rfl (And.intro rfl (And.intro rfl trivial)))))))) (And.intro rfl ?_)))
        refine Exists.intro none ?_
        exact Exists.intro [] (Exists.intro [] (Exists.intro (((w64 (v7_10 + (1:Int))), y13_5.e0, y13_5.e1, y13_5.e2, y13_5.e3), m1) (And.intro (hl1 ((w64 (v7_10 + (1:Int))), y13_5.e0, y13_5.e1, y13_5.e2, y13_5.e3) (Option.some.inj h).symm) (And.intro (Nat.lt_succ_self m1) (And.intro rfl (And.intro ff (And.intro rfl (And.intro rfl (And.intro rfl (And.intro rfl (And.intro rfl (And.intro rfl (And.intro rfl (And.intro rfl (And.intro rfl (And.intro rfl (And.intro rfl (And.intro rfl (And.intro rfl (And.intro rfl (And.intro rfl (And.intro rfl (And.intro rfl trivial)))))))))))))))))))))))
      · skip
        replace h := cF g3 h
        replace h := popS h hr1
        refine Exists.intro none ?_
        obtain ⟨y14_1, e14_1, h⟩ := bS h
        refine Exists.intro _ (Exists.intro _ (And.intro (Contract.wk (c_exact_total p0 y14_1 e14_1) (And.intro ff (And.intro rfl trivial))) (And.intro rfl ?_)))
        refine Exists.intro none ?_
        obtain ⟨y15_4, e15_4, h⟩ := bS h
        refine Exists.intro _ (Exists.intro _ (And.intro (Contract.wk (c_exact_quad_times (exact_quad.mk (0:Int) (0:Int) (0:Int) (0:Int)) y14_1.2.Lo y14_1.2.Lo (0:Int) y15_4 e15_4) (And.intro rfl (And.intro rfl (And.intro rfl (And.intro rfl (And.intro rfl (And.intro rfl (And.intro rfl trivial)))))))) (And.intro rfl ?_)))
        refine Exists.intro none ?_
        obtain ⟨y16_4, e16_4, h⟩ := bS h
        refine Exists.intro _ (Exists.intro _ (And.intro (Contract.wk (c_exact_quad_times y15_4 y14_1.2.Lo y14_1.2.Hi (1:Int) y16_4 e16_4) (And.intro rfl (And.intro rfl (And.intro rfl (And.intro rfl (And.intro rfl (And.intro rfl (And.intro rfl trivial)))))))) (And.intro rfl ?_)))
        refine Exists.intro none ?_
        obtain ⟨y17_4, e17_4, h⟩ := bS h
        refine Exists.intro _ (Exists.intro _ (And.intro (Contract.wk (c_exact_quad_times y16_4 y14_1.2.Lo y14_1.2.Hi (1:Int) y17_4 e17_4) (And.intro rfl (And.intro rfl (And.intro rfl (And.intro rfl (And.intro rfl (And.intro rfl (And.intro rfl trivial)))))))) (And.intro rfl ?_)))
        refine Exists.intro none ?_
        obtain ⟨y18_4, e18_4, h⟩ := bS h
        refine Exists.intro _ (Exists.intro _ (And.intro (Contract.wk (c_exact_quad_times y17_4 y14_1.2.Hi y14_1.2.Hi (2:Int) y18_4 e18_4) (And.intro rfl (And.intro rfl (And.intro rfl (And.intro rfl (And.intro rfl (And.intro rfl (And.intro rfl trivial)))))))) (And.intro rfl ?_)))
        refine Exists.intro none ?_
        obtain ⟨y19_2, e19_2, h⟩ := bS h
        refine Exists.intro _ (Exists.intro _ (And.intro (Contract.wk (c_exact_minus (exact_quad.mk v7_b4x1_0 v7_b4x1_1 v7_b4x1_2 v7_b4x1_3) y18_4 y19_2 e19_2) (And.intro rfl (And.intro rfl (And.intro rfl (And.intro rfl (And.intro rfl (And.intro rfl (And.intro rfl (And.intro rfl trivial))))))))) (And.intro rfl ?_)))
        refine Exists.intro none ?_
        obtain ⟨y20_2, e20_2, h⟩ := bS h
        refine Exists.intro _ (Exists.intro _ (And.intro (Contract.wk (c_exact_by y19_2 (wu64 (p0.length : Int)) y20_2 e20_2) (And.intro rfl (And.intro rfl (And.intro rfl (And.intro rfl (And.intro rfl trivial)))))) (And.intro rfl ?_)))
        refine Exists.intro none ?_
        obtain ⟨y21_4, e21_4, h⟩ := bS h
        refine Exists.intro _ (Exists.intro _ (And.intro (Contract.wk (c_num_Gcd (w64 (wu64 (p0.length : Int))) (w64 y20_2.2) y21_4 e21_4) (And.intro rfl (And.intro rfl trivial))) (And.intro rfl ?_)))
        refine Exists.intro none ?_
        obtain ⟨y22_2, e22_2, h⟩ := bS h
        refine Exists.intro _ (Exists.intro _ (And.intro (Contract.wk (c_exact_by y19_2 (wu64 y21_4) y22_2 e22_2) (And.intro rfl (And.intro rfl (And.intro rfl (And.intro rfl (And.intro rfl trivial)))))) (And.intro rfl ?_)))
        refine Exists.intro none ?_
        refine Exists.intro none ?_
        refine And.intro (by decide) ?_
        refine Exists.intro [.int .u64 y22_2.1.e1] (And.intro ⟨by decide, rfl⟩ ?_)
        refine And.intro (by decide) ?_
        refine Exists.intro [.int .u64 y22_2.1.e2] (And.intro ⟨by decide, rfl⟩ ?_)
        refine And.intro (by decide) ?_
        refine Exists.intro [.int .u64 y22_2.1.e3] (And.intro ⟨by decide, rfl⟩ ?_)
        refine And.intro (fun g4 => ?_) (fun g4 => ?_)
        · skip
          refine And.intro (by decide) ?_
          refine Exists.intro [.int .u64 y22_2.1.e0] (And.intro ⟨by decide, rfl⟩ ?_)
          refine And.intro (fun g5 => ?_) (fun g5 => ?_)
          · skip
            replace h := cT (oR g4 g5) h
            refine Exists.intro none ?_
            replace h := Option.some.inj h
            first | subst h | rw [← h]
            exact (And.intro rfl (And.intro rfl (And.intro rfl trivial)))
          · skip
            replace h := cF (oR g4 g5) h
            refine Exists.intro none ?_
            obtain ⟨k25_5, h⟩ := ckS h
            refine And.intro (by decide) ?_
            refine Exists.intro [.int .u64 y22_2.1.e0] (And.intro ⟨by decide, rfl⟩ ?_)
            refine And.intro (of_decide_eq_true k25_5) ?_
            replace h := Option.some.inj h
            first | subst h | rw [← h]
            exact (And.intro rfl (And.intro rfl (And.intro rfl trivial)))
        · skip
          replace h := cT (oL g4) h
          refine Exists.intro none ?_
          replace h := Option.some.inj h
          first | subst h | rw [← h]
          exact (And.intro rfl (And.intro rfl (And.intro rfl trivial)))

theorem c_ref01_Abs' (p0 : Int) (r : Int) (h : ref01_Abs p0 = r) : Contract Try.prog 91 [.int .i64 p0] [] (.int .u64 r) [] := by
  refine contract_of_vcs tab_ok orders_ok Try.func91 Try.call91 (by kernel_rfl) 0 rfl rfl _ rfl ?_
  delta ref01_Abs at h
  refine Exists.intro none ?_
  refine Exists.intro none ?_
  refine And.intro (fun g1 => ?_) (fun g1 => ?_)
  · skip
    replace h := cT g1 h
    refine Exists.intro none ?_
    first | subst h | rw [← h]
    exact (And.intro rfl trivial)
  · skip
    replace h := cF g1 h
    refine Exists.intro none ?_
    first | subst h | rw [← h]
    exact (And.intro rfl trivial)
theorem c_ref01_Abs (p0 : Int) : Contract Try.prog 91 [.int .i64 p0] [] (.int .u64 (ref01_Abs p0)) [] := c_ref01_Abs' p0 (ref01_Abs p0) rfl

theorem c_ref02_bit (p0 : api_Wide) (p1 : Int) (r : Int) (h : ref02_bit p0 p1 = some r) : Contract Try.prog 114 [.agg [.int .u64 p0.Hi, .int .u64 p0.Lo], .int .i64 p1] [] (.int .u64 r) [] := by
  refine contract_of_vcs tab_ok orders_ok Try.func114 Try.call114 (by kernel_rfl) 0 rfl rfl _ rfl ?_
  delta ref02_bit at h
  refine Exists.intro none ?_
  refine Exists.intro none ?_
  refine And.intro (fun g1 => ?_) (fun g1 => ?_)
  · skip
    replace h := cT g1 h
    refine Exists.intro none ?_
    obtain ⟨k2_5, h⟩ := ckS h
    refine And.intro (of_decide_eq_true k2_5) ?_
    replace h := Option.some.inj h
    first | subst h | rw [← h]
    exact (And.intro rfl trivial)
  · skip
    replace h := cF g1 h
    refine Exists.intro none ?_
    obtain ⟨k3_4, h⟩ := ckS h
    refine And.intro (of_decide_eq_true k3_4) ?_
    replace h := Option.some.inj h
    first | subst h | rw [← h]
    exact (And.intro rfl trivial)

theorem c_ref02_Compare' (p0 : api_Wide) (p1 : api_Wide) (r : Int) (h : ref02_Compare p0 p1 = r) : Contract Try.prog 95 [.agg [.int .u64 p0.Hi, .int .u64 p0.Lo], .agg [.int .u64 p1.Hi, .int .u64 p1.Lo]] [] (.int .i64 r) [] := by
  refine contract_of_vcs tab_ok orders_ok Try.func95 Try.call95 (by kernel_rfl) 0 rfl rfl _ rfl ?_
  delta ref02_Compare at h
  refine Exists.intro none ?_
  refine Exists.intro none ?_
  refine Exists.intro (some (⟨Unit, fun _ => [(.tmp 2, .av (.ptr 0 0)), (.tmp 3, .av (.ptr 1 0)), (.tmp 5, .av (.sb ((decide (p0.Hi < p1.Hi)) || ((p0.Hi == p1.Hi) && (decide (p0.Lo < p1.Lo)))))), (.box 0, .box [.int .u64 p0.Hi, .int .u64 p0.Lo]), (.box 1, .box [.int .u64 p1.Hi, .int .u64 p1.Lo])], fun _ => True, fun _ => 0⟩, 1000000)) (And.intro ?_ (fun _ _ => ?_))
  · skip
    refine And.intro (fun g1 => ?_) (fun g1 => ?_)
    · skip
      refine And.intro (fun g2 => ?_) (fun g2 => ?_)
      · skip
        exact Exists.intro [] (Exists.intro [] (Exists.intro () (And.intro trivial (And.intro rfl (And.intro (Eq.symm (oR g1 (aR g2 rfl))) (And.intro rfl (And.intro rfl (And.intro rfl (And.intro rfl trivial)))))))))
      · skip
        exact Exists.intro [] (Exists.intro [] (Exists.intro () (And.intro trivial (And.intro rfl (And.intro (Eq.symm (oR g1 (aL g2))) (And.intro rfl (And.intro rfl (And.intro rfl (And.intro rfl trivial)))))))))
    · skip
      exact Exists.intro [] (Exists.intro [] (Exists.intro () (And.intro trivial (And.intro rfl (And.intro (Eq.symm (oL g1)) (And.intro rfl (And.intro rfl (And.intro rfl (And.intro rfl trivial)))))))))
  · skip
    refine And.intro (fun g3 => ?_) (fun g3 => ?_)
    · skip
      replace h := cT g3 h
      refine Exists.intro none ?_
      first | subst h | rw [← h]
      exact (And.intro rfl trivial)
    · skip
      replace h := cF g3 h
      refine Exists.intro none ?_
      refine And.intro (fun g4 => ?_) (fun g4 => ?_)
      · skip
        replace h := cT g4 h
        refine Exists.intro none ?_
        first | subst h | rw [← h]
        exact (And.intro rfl trivial)
      · skip
        replace h := cF g4 h
        refine Exists.intro none ?_
        first | subst h | rw [← h]
        exact (And.intro rfl trivial)
theorem c_ref02_Compare (p0 : api_Wide) (p1 : api_Wide) : Contract Try.prog 95 [.agg [.int .u64 p0.Hi, .int .u64 p0.Lo], .agg [.int .u64 p1.Hi, .int .u64 p1.Lo]] [] (.int .i64 (ref02_Compare p0 p1)) [] := c_ref02_Compare' p0 p1 (ref02_Compare p0 p1) rfl

theorem c_ref02_Div (p0 : api_Wide) (p1 : api_Wide) (r : (api_Wide × api_Wide × Bool)) (h : ref02_Div p0 p1 = some r) : Contract Try.prog 108 [.agg [.int .u64 p0.Hi, .int .u64 p0.Lo], .agg [.int .u64 p1.Hi, .int .u64 p1.Lo]] [] (.tup [.agg [.int .u64 r.1.Hi, .int .u64 r.1.Lo], .agg [.int .u64 r.2.1.Hi, .int .u64 r.2.1.Lo], .sb r.2.2]) [] := by
  refine contract_of_vcs tab_ok orders_ok Try.func108 Try.call108 (by kernel_rfl) 0 rfl rfl _ rfl ?_
  delta ref02_Div at h
  refine Exists.intro none ?_
  refine Exists.intro none ?_
  refine And.intro (fun g1 => ?_) (fun g1 => ?_)
  · skip
    replace h := cT g1 h
    refine Exists.intro none ?_
    replace h := Option.some.inj h
    first | subst h | rw [← h]
    exact (And.intro rfl (And.intro rfl (And.intro rfl (And.intro rfl (And.intro rfl trivial)))))
  · skip
    replace h := cF g1 h
    refine Exists.intro none ?_
    refine Exists.intro none ?_
    replace h : ref02_Div_l3 p0 p1 (127:Int) (0:Int) (0:Int) (0:Int) (0:Int) = some r := h
    delta ref02_Div_l3 at h
    obtain ⟨n1, h⟩ := loopS h
    refine Exists.intro ⟨(Int × Int × Int × Int × Int) × Nat, fun q => [(.tmp 2, .av (.ptr 0 0)), (.tmp 3, .av (.ptr 1 0)), (.tmp 4, .av (.ptr 2 0)), (.tmp 5, .av (.ptr 3 0)), (.tmp 7, .av (.ptr 512 0)), (.tmp 8, .av (.ptr 513 0)), (.tmp 9, .av (.int .i64 q.1.1)), (.box 0, .box [.int .u64 p0.Hi, .int .u64 p0.Lo]), (.box 1, .box [.int .u64 p1.Hi, .int .u64 p1.Lo]), (.box 2, .box [.int .u64 (0:Int), .int .u64 (0:Int)]), (.box 3, .box [.int .u64 (0:Int), .int .u64 (0:Int)]), (.box 512, .box [.int .u64 q.1.2.1, .int .u64 q.1.2.2.1]), (.box 513, .box [.int .u64 q.1.2.2.2.1, .int .u64 q.1.2.2.2.2])], fun q => loopN (fun (s : (Int × Int × Int × Int × Int)) => ref02_Div_l3s p0 p1 s.1 s.2.1 s.2.2.1 s.2.2.2.1 s.2.2.2.2) q.2 q.1 = some r, fun q => q.2⟩ (And.intro (Exists.intro [] (Exists.intro [] (Exists.intro (((127:Int), (0:Int), (0:Int), (0:Int), (0:Int)), n1) (And.intro h (And.intro rfl (And.intro rfl (And.intro rfl (And.intro rfl (And.intro rfl (And.intro rfl (And.intro rfl (And.intro rfl (And.intro rfl (And.intro rfl (And.intro rfl (And.intro rfl (And.intro rfl (And.intro rfl trivial)))))))))))))))))) ?_)
    clear h
    refine fun q h => ?_
    obtain ⟨⟨v3_9, v3_b3x0_0, v3_b3x0_1, v3_b3x1_0, v3_b3x1_1⟩, n1⟩ := q
    obtain ⟨m1, x1, hm1, h, hl1, hr1⟩ := loopN_step h
    replace hm1 : n1 = m1 + 1 := hm1
    subst hm1
    replace h : ref02_Div_l3s p0 p1 v3_9 v3_b3x0_0 v3_b3x0_1 v3_b3x1_0 v3_b3x1_1 = some x1 := h
    delta ref02_Div_l3s at h
    refine Exists.intro none ?_
    refine And.intro (fun g2 => ?_) (fun g2 => ?_)
    · skip
      replace h := cT g2 h
      refine Exists.intro none ?_
      refine Exists.intro none ?_
      refine Exists.intro none ?_
      obtain ⟨y8_3, e8_3, h⟩ := bS h
      refine Exists.intro _ (Exists.intro _ (And.intro (Contract.wk (c_ref02_bit p0 v3_9 y8_3 e8_3) (And.intro rfl (And.intro rfl (And.intro rfl trivial)))) (And.intro rfl ?_)))
      refine Exists.intro _ (Exists.intro _ (And.intro (Contract.wk (c_ref02_double (api_Wide.mk v3_b3x1_0 v3_b3x1_1) y8_3) (And.intro rfl (And.intro rfl (And.intro rfl trivial)))) (And.intro rfl ?_)))
      refine Exists.intro none ?_
      refine Exists.intro none ?_
      refine Exists.intro (some (⟨Unit, fun _ => [(.tmp 2, .av (.ptr 0 0)), (.tmp 3, .av (.ptr 1 0)), (.tmp 4, .av (.ptr 2 0)), (.tmp 5, .av (.ptr 3 0)), (.tmp 7, .av (.ptr 512 0)), (.tmp 8, .av (.ptr 513 0)), (.tmp 9, .av (.int .i64 v3_9)), (.tmp 11, .av (.int .u64 (0:Int))), (.tmp 40, .av (.sb (((ref02_double (api_Wide.mk v3_b3x1_0 v3_b3x1_1) y8_3).2 != (0:Int)) || (decide ((ref02_Compare (ref02_double (api_Wide.mk v3_b3x1_0 v3_b3x1_1) y8_3).1 p1) ≥ (0:Int)))))), (.box 0, .box [.int .u64 p0.Hi, .int .u64 p0.Lo]), (.box 1, .box [.int .u64 p1.Hi, .int .u64 p1.Lo]), (.box 2, .box [.int .u64 (0:Int), .int .u64 (0:Int)]), (.box 3, .box [.int .u64 (0:Int), .int .u64 (0:Int)]), (.box 512, .box [.int .u64 v3_b3x0_0, .int .u64 v3_b3x0_1]), (.box 513, .box [.int .u64 (ref02_double (api_Wide.mk v3_b3x1_0 v3_b3x1_1) y8_3).1.Hi, .int .u64 (ref02_double (api_Wide.mk v3_b3x1_0 v3_b3x1_1) y8_3).1.Lo])], fun _ => True, fun _ => 0⟩, 1000000)) (And.intro ?_ (fun _ _ => ?_))
      · skip
        refine And.intro (fun g3 => ?_) (fun g3 => ?_)
        · skip
          refine Exists.intro _ (Exists.intro _ (And.intro (Contract.wk (c_ref02_Compare (ref02_double (api_Wide.mk v3_b3x1_0 v3_b3x1_1) y8_3).1 p1) (And.intro rfl (And.intro rfl (And.intro rfl (And.intro rfl trivial))))) (And.intro rfl ?_)))
          exact Exists.intro [] (Exists.intro [] (Exists.intro () (And.intro trivial (And.intro rfl (And.intro rfl (And.intro rfl (And.intro (Eq.symm (oR g3 rfl)) (And.intro rfl (And.intro rfl (And.intro rfl (And.intro rfl (And.intro rfl (And.intro rfl (And.intro rfl (And.intro rfl (And.intro rfl (And.intro rfl (And.intro rfl (And.intro rfl trivial)))))))))))))))))))
        · skip
          exact Exists.intro [] (Exists.intro [] (Exists.intro () (And.intro trivial (And.intro rfl (And.intro rfl (And.intro rfl (And.intro (Eq.symm (oL g3)) (And.intro rfl (And.intro rfl (And.intro rfl (And.intro rfl (And.intro rfl (And.intro rfl (And.intro rfl (And.intro rfl (And.intro rfl (And.intro rfl (And.intro rfl (And.intro rfl trivial)))))))))))))))))))
      · skip
        refine Exists.intro (some (⟨Int × Int × Int, fun q => [(.tmp 2, .av (.ptr 0 0)), (.tmp 3, .av (.ptr 1 0)), (.tmp 4, .av (.ptr 2 0)), (.tmp 5, .av (.ptr 3 0)), (.tmp 7, .av (.ptr 512 0)), (.tmp 8, .av (.ptr 513 0)), (.tmp 9, .av (.int .i64 v3_9)), (.tmp 11, .av (.int .u64 q.1)), (.box 0, .box [.int .u64 p0.Hi, .int .u64 p0.Lo]), (.box 1, .box [.int .u64 p1.Hi, .int .u64 p1.Lo]), (.box 2, .box [.int .u64 (0:Int), .int .u64 (0:Int)]), (.box 3, .box [.int .u64 (0:Int), .int .u64 (0:Int)]), (.box 512, .box [.int .u64 v3_b3x0_0, .int .u64 v3_b3x0_1]), (.box 513, .box [.int .u64 q.2.1, .int .u64 q.2.2])], fun q => ref02_Div_j6 v3_9 v3_b3x0_0 v3_b3x0_1 q.1 q.2.1 q.2.2 = some x1, fun _ => 0⟩, 2000000)) (And.intro ?_ ?_)
        · skip
          refine And.intro (fun g4 => ?_) (fun g4 => ?_)
          · skip
            replace h := cT g4 h
            refine Exists.intro none ?_
            obtain ⟨y11_4, e11_4, h⟩ := bS h
            refine Exists.intro _ (Exists.intro _ (And.intro (Contract.wk (c_math_bits_Sub64 (ref02_double (api_Wide.mk v3_b3x1_0 v3_b3x1_1) y8_3).1.Lo p1.Lo (0:Int) y11_4 e11_4) (And.intro rfl (And.intro rfl (And.intro rfl trivial)))) (And.intro rfl ?_)))
            refine Exists.intro none ?_
            obtain ⟨y12_5, e12_5, h⟩ := bS h
            refine Exists.intro _ (Exists.intro _ (And.intro (Contract.wk (c_math_bits_Sub64 (ref02_double (api_Wide.mk v3_b3x1_0 v3_b3x1_1) y8_3).1.Hi p1.Hi y11_4.2 y12_5 e12_5) (And.intro rfl (And.intro rfl (And.intro rfl trivial)))) (And.intro rfl ?_)))
            refine Exists.intro none ?_
            exact Exists.intro [] (Exists.intro [] (Exists.intro ((1:Int), y12_5.1, y11_4.1) (And.intro h (And.intro rfl (And.intro rfl (And.intro rfl (And.intro rfl (And.intro rfl (And.intro rfl (And.intro rfl (And.intro rfl (And.intro rfl (And.intro rfl (And.intro rfl (And.intro rfl (And.intro rfl (And.intro rfl (And.intro rfl trivial))))))))))))))))))
          · skip
            replace h := cF g4 h
            exact Exists.intro [] (Exists.intro [] (Exists.intro ((0:Int), (ref02_double (api_Wide.mk v3_b3x1_0 v3_b3x1_1) y8_3).1.Hi, (ref02_double (api_Wide.mk v3_b3x1_0 v3_b3x1_1) y8_3).1.Lo) (And.intro h (And.intro rfl (And.intro rfl (And.intro rfl (And.intro rfl (And.intro rfl (And.intro rfl (And.intro rfl (And.intro rfl (And.intro rfl (And.intro rfl (And.intro rfl (And.intro rfl (And.intro rfl (And.intro rfl (And.intro rfl trivial))))))))))))))))))
        · skip
          clear h
          refine fun q h => ?_
          obtain ⟨j6_11, j6_b3x1_0, j6_b3x1_1⟩ := q
          replace h : ref02_Div_j6 v3_9 v3_b3x0_0 v3_b3x0_1 j6_11 j6_b3x1_0 j6_b3x1_1 = some x1 := h
          delta ref02_Div_j6 at h
          refine Exists.intro none ?_
          refine Exists.intro _ (Exists.intro _ (And.intro (Contract.wk (c_ref02_double (api_Wide.mk v3_b3x0_0 v3_b3x0_1) j6_11) (And.intro rfl (And.intro rfl (And.intro rfl trivial)))) (And.intro rfl ?_)))
          refine Exists.intro none ?_
          exact Exists.intro [] (Exists.intro [] (Exists.intro (((w64 (v3_9 - (1:Int))), (ref02_double (api_Wide.mk v3_b3x0_0 v3_b3x0_1) j6_11).1.Hi, (ref02_double (api_Wide.mk v3_b3x0_0 v3_b3x0_1) j6_11).1.Lo, j6_b3x1_0, j6_b3x1_1), m1) (And.intro (hl1 ((w64 (v3_9 - (1:Int))), (ref02_double (api_Wide.mk v3_b3x0_0 v3_b3x0_1) j6_11).1.Hi, (ref02_double (api_Wide.mk v3_b3x0_0 v3_b3x0_1) j6_11).1.Lo, j6_b3x1_0, j6_b3x1_1) (Option.some.inj h).symm) (And.intro (Nat.lt_succ_self m1) (And.intro rfl (And.intro rfl (And.intro rfl (And.intro rfl (And.intro rfl (And.intro rfl (And.intro rfl (And.intro rfl (And.intro rfl (And.intro rfl (And.intro rfl (And.intro rfl (And.intro rfl (And.intro rfl trivial))))))))))))))))))
    · skip
      replace h := cF g2 h
      replace h := popS h hr1
      refine Exists.intro none ?_
      replace h := Option.some.inj h
      first | subst h | rw [← h]
      exact (And.intro rfl (And.intro rfl (And.intro rfl (And.intro rfl (And.intro rfl trivial)))))

theorem c_ref02_Gcd (p0 : api_Wide) (p1 : api_Wide) (r : api_Wide) (h : ref02_Gcd p0 p1 = some r) : Contract Try.prog 92 [.agg [.int .u64 p0.Hi, .int .u64 p0.Lo], .agg [.int .u64 p1.Hi, .int .u64 p1.Lo]] [] (.agg [.int .u64 r.Hi, .int .u64 r.Lo]) [] := by
  refine contract_of_vcs tab_ok orders_ok Try.func92 Try.call92 (by kernel_rfl) 0 rfl rfl _ rfl ?_
  delta ref02_Gcd at h
  refine Exists.intro none ?_
  replace h : ref02_Gcd_l2 p0.Hi p0.Lo p1.Hi p1.Lo = some r := h
  delta ref02_Gcd_l2 at h
  obtain ⟨n1, h⟩ := loopS h
  refine Exists.intro ⟨(Int × Int × Int × Int) × Nat, fun q => [(.tmp 2, .av (.ptr 0 0)), (.tmp 3, .av (.ptr 1 0)), (.tmp 4, .av (.ptr 2 0)), (.box 0, .box [.int .u64 q.1.1, .int .u64 q.1.2.1]), (.box 1, .box [.int .u64 q.1.2.2.1, .int .u64 q.1.2.2.2]), (.box 2, .box [.int .u64 (0:Int), .int .u64 (0:Int)])], fun q => loopN (fun (s : (Int × Int × Int × Int)) => ref02_Gcd_l2s s.1 s.2.1 s.2.2.1 s.2.2.2) q.2 q.1 = some r, fun q => q.2⟩ (And.intro (Exists.intro [] (Exists.intro [] (Exists.intro ((p0.Hi, p0.Lo, p1.Hi, p1.Lo), n1) (And.intro h (And.intro rfl (And.intro rfl (And.intro rfl (And.intro rfl (And.intro rfl (And.intro rfl (And.intro rfl trivial))))))))))) ?_)
  clear h
  refine fun q h => ?_
  obtain ⟨⟨v2_b0x0_0, v2_b0x0_1, v2_b0x1_0, v2_b0x1_1⟩, n1⟩ := q
  obtain ⟨m1, x1, hm1, h, hl1, hr1⟩ := loopN_step h
  replace hm1 : n1 = m1 + 1 := hm1
  subst hm1
  replace h : ref02_Gcd_l2s v2_b0x0_0 v2_b0x0_1 v2_b0x1_0 v2_b0x1_1 = some x1 := h
  delta ref02_Gcd_l2s at h
  refine Exists.intro none ?_
  refine And.intro (fun g1 => ?_) (fun g1 => ?_)
  · skip
    replace h := cT g1 h
    refine Exists.intro none ?_
    obtain ⟨y2_2, e2_2, h⟩ := bS h
    refine Exists.intro _ (Exists.intro _ (And.intro (Contract.wk (c_ref02_Div (api_Wide.mk v2_b0x0_0 v2_b0x0_1) (api_Wide.mk v2_b0x1_0 v2_b0x1_1) y2_2 e2_2) (And.intro rfl (And.intro rfl (And.intro rfl (And.intro rfl trivial))))) (And.intro rfl ?_)))
    refine Exists.intro none ?_
    exact Exists.intro [] (Exists.intro [] (Exists.intro ((v2_b0x1_0, v2_b0x1_1, y2_2.2.1.Hi, y2_2.2.1.Lo), m1) (And.intro (hl1 (v2_b0x1_0, v2_b0x1_1, y2_2.2.1.Hi, y2_2.2.1.Lo) (Option.some.inj h).symm) (And.intro (Nat.lt_succ_self m1) (And.intro rfl (And.intro rfl (And.intro rfl (And.intro rfl (And.intro rfl (And.intro rfl (And.intro rfl trivial)))))))))))
  · skip
    replace h := cF g1 h
    replace h := popS h hr1
    refine Exists.intro none ?_
    replace h := Option.some.inj h
    first | subst h | rw [← h]
    exact (And.intro rfl (And.intro rfl trivial))

theorem c_made_Mod (p0 : Int) (p1 : Int) (r : Int) (h : made_Mod p0 p1 = some r) : Contract Try.prog 27 [.int .i64 p0, .int .i64 p1] [] (.int .i64 r) [] := by
  refine contract_of_vcs tab_ok orders_ok Try.func27 Try.call27 (by kernel_rfl) 0 rfl rfl _ rfl ?_
  delta made_Mod at h
  refine Exists.intro none ?_
  refine Exists.intro none ?_
  obtain ⟨k1_2, h⟩ := ckS h
  refine And.intro (of_decide_eq_true k1_2) ?_
  refine Exists.intro none ?_
  refine And.intro (fun g1 => ?_) (fun g1 => ?_)
  · skip
    replace h := cT g1 h
    refine Exists.intro none ?_
    replace h := Option.some.inj h
    first | subst h | rw [← h]
    exact (And.intro rfl trivial)
  · skip
    replace h := cF g1 h
    refine Exists.intro none ?_
    replace h := Option.some.inj h
    first | subst h | rw [← h]
    exact (And.intro rfl trivial)

theorem c_made_Value (p0 : Int) (r : Int) (h : made_Value p0 = some r) : Contract Try.prog 28 [.int .i64 p0] [] (.int .i64 r) [] := by
  refine contract_of_vcs tab_ok orders_ok Try.func28 Try.call28 (by kernel_rfl) 0 rfl rfl _ rfl ?_
  delta made_Value at h
  refine Exists.intro none ?_
  refine Exists.intro none ?_
  refine And.intro (by decide) ?_
  refine Exists.intro none ?_
  obtain ⟨y2_1, e2_1, h⟩ := bS h
  refine Exists.intro _ (Exists.intro _ (And.intro (Contract.wk (c_made_Mod p0 (8:Int) y2_1 e2_1) (And.intro rfl (And.intro rfl trivial))) (And.intro rfl ?_)))
  refine Exists.intro none ?_
  refine And.intro (fun g1 => ?_) (fun g1 => ?_)
  · skip
    replace h := cT g1 h
    refine Exists.intro none ?_
    obtain ⟨y4_1, e4_1, h⟩ := bS h
    refine Exists.intro _ (Exists.intro _ (And.intro (Contract.wk (c_made_Mod (w64 (Int.tdiv p0 (8:Int))) (8193:Int) y4_1 e4_1) (And.intro rfl (And.intro rfl trivial))) (And.intro rfl ?_)))
    replace h := Option.some.inj h
    first | subst h | rw [← h]
    exact (And.intro rfl trivial)
  · skip
    replace h := cF g1 h
    refine Exists.intro none ?_
    refine And.intro (fun g2 => ?_) (fun g2 => ?_)
    · skip
      replace h := cT g2 h
      refine Exists.intro none ?_
      obtain ⟨y6_1, e6_1, h⟩ := bS h
      refine Exists.intro _ (Exists.intro _ (And.intro (Contract.wk (c_made_Mod (w64 (Int.tdiv p0 (8:Int))) (2:Int) y6_1 e6_1) (And.intro rfl (And.intro rfl trivial))) (And.intro rfl ?_)))
      replace h := Option.some.inj h
      first | subst h | rw [← h]
      exact (And.intro rfl trivial)
    · skip
      replace h := cF g2 h
      refine Exists.intro none ?_
      obtain ⟨y7_1, e7_1, h⟩ := bS h
      refine Exists.intro _ (Exists.intro _ (And.intro (Contract.wk (c_made_Mod (w64 (Int.tdiv p0 (8:Int))) (13:Int) y7_1 e7_1) (And.intro rfl (And.intro rfl trivial))) (And.intro rfl ?_)))
      replace h := Option.some.inj h
      first | subst h | rw [← h]
      exact (And.intro rfl trivial)

theorem c_ref03_Valid (p0 : api_Ratio) (r : Bool) (h : ref03_Valid p0 = some r) : Contract Try.prog 63 [.agg [.int .i64 p0.Num, .int .i64 p0.Den]] [] (.sb r) [] := by
  refine contract_of_vcs tab_ok orders_ok Try.func63 Try.call63 (by kernel_rfl) 0 rfl rfl _ rfl ?_
  delta ref03_Valid at h
  refine Exists.intro none ?_
  refine Exists.intro none ?_
  obtain ⟨y1_12, e1_12, h⟩ := bS h
  refine Exists.intro none ?_
  refine And.intro (fun g1 => ?_) (fun g1 => ?_)
  · skip
    refine Exists.intro _ (Exists.intro _ (And.intro (Contract.wk (c_ref01_Abs p0.Num) (And.intro rfl trivial)) (And.intro rfl ?_)))
    refine Exists.intro _ (Exists.intro _ (And.intro (Contract.wk (c_ref02_Of (ref01_Abs p0.Num)) (And.intro rfl trivial)) (And.intro rfl ?_)))
    refine Exists.intro _ (Exists.intro _ (And.intro (Contract.wk (c_ref02_Of (wu64 p0.Den)) (And.intro rfl trivial)) (And.intro rfl ?_)))
    refine Exists.intro _ (Exists.intro _ (And.intro (Contract.wk (c_ref02_Gcd (ref02_Of (ref01_Abs p0.Num)) (ref02_Of (wu64 p0.Den)) y1_12 (gdT g1 e1_12)) (And.intro rfl (And.intro rfl (And.intro rfl (And.intro rfl trivial))))) (And.intro rfl ?_)))
    refine Exists.intro _ (Exists.intro _ (And.intro (Contract.wk (c_ref02_Of (1:Int)) (And.intro rfl trivial)) (And.intro rfl ?_)))
    replace h := Option.some.inj h
    first | subst h | rw [← h]
    exact (And.intro (Eq.symm (aR g1 rfl)) trivial)
  · skip
    replace h := Option.some.inj h
    first | subst h | rw [← h]
    exact (And.intro (Eq.symm (aL g1)) trivial)

theorem c_ref02_Product' (p0 : Int) (p1 : Int) (r : api_Wide) (h : ref02_Product p0 p1 = r) : Contract Try.prog 93 [.int .u64 p0, .int .u64 p1] [] (.agg [.int .u64 r.Hi, .int .u64 r.Lo]) [] := by
  refine contract_of_vcs tab_ok orders_ok Try.func93 Try.call93 (by kernel_rfl) 0 rfl rfl _ rfl ?_
  delta ref02_Product at h
  refine Exists.intro none ?_
  refine Exists.intro none ?_
  refine Exists.intro _ (Exists.intro _ (And.intro (Contract.wk (c_math_bits_Mul64 p0 p1) (And.intro rfl (And.intro rfl trivial))) (And.intro rfl ?_)))
  refine Exists.intro none ?_
  first | subst h | rw [← h]
  exact (And.intro rfl (And.intro rfl trivial))
theorem c_ref02_Product (p0 : Int) (p1 : Int) : Contract Try.prog 93 [.int .u64 p0, .int .u64 p1] [] (.agg [.int .u64 (ref02_Product p0 p1).Hi, .int .u64 (ref02_Product p0 p1).Lo]) [] := c_ref02_Product' p0 p1 (ref02_Product p0 p1) rfl

theorem c_ref02_sign' (p0 : Int) (r : Int) (h : ref02_sign p0 = r) : Contract Try.prog 94 [.int .i64 p0] [] (.int .i64 r) [] := by
  refine contract_of_vcs tab_ok orders_ok Try.func94 Try.call94 (by kernel_rfl) 0 rfl rfl _ rfl ?_
  delta ref02_sign at h
  refine Exists.intro none ?_
  refine Exists.intro none ?_
  refine And.intro (fun g1 => ?_) (fun g1 => ?_)
  · skip
    replace h := cT g1 h
    refine Exists.intro none ?_
    first | subst h | rw [← h]
    exact (And.intro rfl trivial)
  · skip
    replace h := cF g1 h
    refine Exists.intro none ?_
    refine And.intro (fun g2 => ?_) (fun g2 => ?_)
    · skip
      replace h := cT g2 h
      refine Exists.intro none ?_
      first | subst h | rw [← h]
      exact (And.intro rfl trivial)
    · skip
      replace h := cF g2 h
      refine Exists.intro none ?_
      first | subst h | rw [← h]
      exact (And.intro rfl trivial)
theorem c_ref02_sign (p0 : Int) : Contract Try.prog 94 [.int .i64 p0] [] (.int .i64 (ref02_sign p0)) [] := c_ref02_sign' p0 (ref02_sign p0) rfl

theorem c_ref02_Cross' (p0 : Int) (p1 : Int) (p2 : Int) (p3 : Int) (r : Int) (h : ref02_Cross p0 p1 p2 p3 = r) : Contract Try.prog 64 [.int .i64 p0, .int .i64 p1, .int .i64 p2, .int .i64 p3] [] (.int .i64 r) [] := by
  refine contract_of_vcs tab_ok orders_ok Try.func64 Try.call64 (by kernel_rfl) 0 rfl rfl _ rfl ?_
  delta ref02_Cross at h
  refine Exists.intro none ?_
  refine Exists.intro none ?_
  refine Exists.intro _ (Exists.intro _ (And.intro (Contract.wk (c_ref01_Abs p0) (And.intro rfl trivial)) (And.intro rfl ?_)))
  refine Exists.intro _ (Exists.intro _ (And.intro (Contract.wk (c_ref01_Abs p1) (And.intro rfl trivial)) (And.intro rfl ?_)))
  refine Exists.intro _ (Exists.intro _ (And.intro (Contract.wk (c_ref02_Product (ref01_Abs p0) (ref01_Abs p1)) (And.intro rfl (And.intro rfl trivial))) (And.intro rfl ?_)))
  refine Exists.intro _ (Exists.intro _ (And.intro (Contract.wk (c_ref01_Abs p2) (And.intro rfl trivial)) (And.intro rfl ?_)))
  refine Exists.intro _ (Exists.intro _ (And.intro (Contract.wk (c_ref01_Abs p3) (And.intro rfl trivial)) (And.intro rfl ?_)))
  refine Exists.intro _ (Exists.intro _ (And.intro (Contract.wk (c_ref02_Product (ref01_Abs p2) (ref01_Abs p3)) (And.intro rfl (And.intro rfl trivial))) (And.intro rfl ?_)))
  refine Exists.intro none ?_
  refine Exists.intro _ (Exists.intro _ (And.intro (Contract.wk (c_ref02_sign p0) (And.intro rfl trivial)) (And.intro rfl ?_)))
  refine Exists.intro _ (Exists.intro _ (And.intro (Contract.wk (c_ref02_sign p1) (And.intro rfl trivial)) (And.intro rfl ?_)))
  refine Exists.intro _ (Exists.intro _ (And.intro (Contract.wk (c_ref02_sign p2) (And.intro rfl trivial)) (And.intro rfl ?_)))
  refine Exists.intro _ (Exists.intro _ (And.intro (Contract.wk (c_ref02_sign p3) (And.intro rfl trivial)) (And.intro rfl ?_)))
  refine Exists.intro none ?_
  refine And.intro (fun g1 => ?_) (fun g1 => ?_)
  · skip
    replace h := cT g1 h
    refine Exists.intro none ?_
    first | subst h | rw [← h]
    exact (And.intro rfl trivial)
  · skip
    replace h := cF g1 h
    refine Exists.intro none ?_
    refine And.intro (fun g2 => ?_) (fun g2 => ?_)
    · skip
      replace h := cT g2 h
      refine Exists.intro none ?_
      first | subst h | rw [← h]
      exact (And.intro rfl trivial)
    · skip
      replace h := cF g2 h
      refine Exists.intro none ?_
      refine Exists.intro _ (Exists.intro _ (And.intro (Contract.wk (c_ref02_Compare (ref02_Product (ref01_Abs p0) (ref01_Abs p1)) (ref02_Product (ref01_Abs p2) (ref01_Abs p3))) (And.intro rfl (And.intro rfl (And.intro rfl (And.intro rfl trivial))))) (And.intro rfl ?_)))
      first | subst h | rw [← h]
      exact (And.intro rfl trivial)
theorem c_ref02_Cross (p0 : Int) (p1 : Int) (p2 : Int) (p3 : Int) : Contract Try.prog 64 [.int .i64 p0, .int .i64 p1, .int .i64 p2, .int .i64 p3] [] (.int .i64 (ref02_Cross p0 p1 p2 p3)) [] := c_ref02_Cross' p0 p1 p2 p3 (ref02_Cross p0 p1 p2 p3) rfl

theorem c_ref03_Compare (p0 : api_Ratio) (p1 : api_Ratio) (r : Int) (h : ref03_Compare p0 p1 = some r) : Contract Try.prog 29 [.agg [.int .i64 p0.Num, .int .i64 p0.Den], .agg [.int .i64 p1.Num, .int .i64 p1.Den]] [] (.int .i64 r) [] := by
  refine contract_of_vcs tab_ok orders_ok Try.func29 Try.call29 (by kernel_rfl) 0 rfl rfl _ rfl ?_
  delta ref03_Compare at h
  refine Exists.intro none ?_
  refine Exists.intro none ?_
  obtain ⟨y1_1, e1_1, h⟩ := bS h
  obtain ⟨y1_5, e1_5, h⟩ := bS h
  refine Exists.intro none ?_
  refine Exists.intro _ (Exists.intro _ (And.intro (Contract.wk (c_ref03_Valid p0 y1_1 e1_1) (And.intro rfl (And.intro rfl trivial))) (And.intro rfl ?_)))
  refine And.intro (fun g1 => ?_) (fun g1 => ?_)
  · skip
    refine Exists.intro _ (Exists.intro _ (And.intro (Contract.wk (c_ref03_Valid p1 y1_5 (gdT (nE g1) e1_5)) (And.intro rfl (And.intro rfl trivial))) (And.intro rfl ?_)))
    refine And.intro (fun g2 => ?_) (fun g2 => ?_)
    · skip
      replace h := cT (oR g1 g2) h
      refine Exists.intro none ?_
      replace h := Option.some.inj h
      first | subst h | rw [← h]
      exact (And.intro rfl trivial)
    · skip
      replace h := cF (oR g1 g2) h
      refine Exists.intro none ?_
      refine Exists.intro _ (Exists.intro _ (And.intro (Contract.wk (c_ref02_Cross p0.Num p1.Den p1.Num p0.Den) (And.intro rfl (And.intro rfl (And.intro rfl (And.intro rfl trivial))))) (And.intro rfl ?_)))
      replace h := Option.some.inj h
      first | subst h | rw [← h]
      exact (And.intro rfl trivial)
  · skip
    replace h := cT (oL g1) h
    refine Exists.intro none ?_
    replace h := Option.some.inj h
    first | subst h | rw [← h]
    exact (And.intro rfl trivial)

theorem c_law08_ExactMoves (p0 : (List api_Item)) (p1 : Int) (p2 : api_Item) (r : Bool) (h : law08_ExactMoves p0 p1 p2 = some r) : Contract Try.prog 8 [.lst 2 false (List.map enc_api_Item p0), .int .i64 p1, .agg [.int .i64 p2.T, .int .i64 p2.V]] [] (.sb r) [] := by
  refine contract_of_vcs tab_ok orders_ok Try.func8 Try.call8 (by kernel_rfl) 0 rfl rfl _ rfl ?_
  delta law08_ExactMoves at h
  refine Exists.intro none ?_
  refine Exists.intro none ?_
  refine Exists.intro [.int .i64 (p0.length : Int)] (And.intro (lenS enc_api_Item p0) ?_)
  refine And.intro (fun g1 => ?_) (fun g1 => ?_)
  · skip
    replace h := cT g1 h
    refine Exists.intro none ?_
    obtain ⟨y2_0, e2_0, h⟩ := bS h
    refine Exists.intro _ (Exists.intro _ (And.intro (Contract.wk (c_law08_awake y2_0 e2_0) trivial) (And.intro rfl ?_)))
    replace h := Option.some.inj h
    first | subst h | rw [← h]
    exact (And.intro rfl trivial)
  · skip
    replace h := cF g1 h
    refine Exists.intro none ?_
    obtain ⟨y3_1, e3_1, h⟩ := bS h
    refine Exists.intro _ (Exists.intro _ (And.intro (Contract.wk (c_made_Mod p1 (1000:Int) y3_1 e3_1) (And.intro rfl (And.intro rfl trivial))) (And.intro rfl ?_)))
    refine Exists.intro none ?_
    refine Exists.intro none ?_
    refine Exists.intro [.int .i64 (p0.length : Int)] (And.intro (lenS enc_api_Item p0) ?_)
    replace h : law08_ExactMoves_l3 p0 p2 y3_1 ([] : List api_Item) ([] : List api_Item) (0:Int) = some r := h
    delta law08_ExactMoves_l3 at h
    obtain ⟨n1, h⟩ := loopS h
    refine Exists.intro ⟨((List api_Item) × (List api_Item) × Int) × Nat, fun q => [(.tmp 1, .av (.int .i64 y3_1)), (.tmp 5, .av (.ptr 0 0)), (.tmp 7, .av (.own 1279)), (.tmp 8, .av (.own 1278)), (.tmp 24, .av (.lst 2 false (List.map enc_api_Item p0))), (.tmp 25, .av (.int .i64 (p0.length : Int))), (.tmp 26, .av (.int .i64 q.1.2.2)), (.box 0, .box [.int .i64 p2.T, .int .i64 p2.V]), (.tok 1278, .tok 70 2 (List.map enc_api_Item q.1.2.1)), (.tok 1279, .tok 70 2 (List.map enc_api_Item q.1.1))], fun q => loopN (fun (s : ((List api_Item) × (List api_Item) × Int)) => law08_ExactMoves_l3s p0 p2 y3_1 s.1 s.2.1 s.2.2) q.2 q.1 = some r, fun q => q.2⟩ (And.intro (Exists.intro [(1278, none), (1279, none)] (Exists.intro [] (Exists.intro ((([] : List api_Item), ([] : List api_Item), (0:Int)), n1) (And.intro h (And.intro rfl (And.intro rfl (And.intro ff (And.intro rfl (And.intro rfl (And.intro rfl (And.intro rfl (And.intro rfl (And.intro rfl (And.intro rfl trivial)))))))))))))) ?_)
    clear h
    refine fun q h => ?_
    obtain ⟨⟨v3_7, v3_8, v3_26⟩, n1⟩ := q
    obtain ⟨m1, x1, hm1, h, hl1, hr1⟩ := loopN_step h
    replace hm1 : n1 = m1 + 1 := hm1
    subst hm1
    replace h : law08_ExactMoves_l3s p0 p2 y3_1 v3_7 v3_8 v3_26 = some x1 := h
    delta law08_ExactMoves_l3s at h
    refine Exists.intro none ?_
    refine And.intro (fun g2 => ?_) (fun g2 => ?_)
    · skip
      replace h := cT g2 h
      refine Exists.intro none ?_
      obtain ⟨x7_0, e7_0, h⟩ := bS h
      refine Exists.intro [.int .i64 x7_0.T, .int .i64 x7_0.V] (And.intro (idx_map enc_api_Item e7_0) ?_)
      refine Exists.intro none ?_
      obtain ⟨y8_2, e8_2, h⟩ := bS h
      refine Exists.intro _ (Exists.intro _ (And.intro (Contract.wk (c_made_Value x7_0.V y8_2 e8_2) (And.intro rfl trivial)) (And.intro rfl ?_)))
      refine Exists.intro none ?_
      obtain ⟨k9_4, h⟩ := ckS h
      obtain ⟨k9_11, h⟩ := ckS h
      refine And.intro (by have hh := (of_decide_eq_true k9_4); (try simp only [fixRows_length, List.length_map, List.length_append, List.length_take, List.length_drop, List.length_set, List.length_replicate, List.length_cons, List.length_nil] at hh); (try simp only [fixRows_length, List.length_map, List.length_append, List.length_take, List.length_drop, List.length_set, List.length_replicate, List.length_cons, List.length_nil]); (try simp only [w64, wu64] at hh); (try simp only [w64, wu64]); omega) ?_
      refine And.intro (by have hh := (of_decide_eq_true k9_11); (try simp only [fixRows_length, List.length_map, List.length_append, List.length_take, List.length_drop, List.length_set, List.length_replicate, List.length_cons, List.length_nil] at hh); (try simp only [fixRows_length, List.length_map, List.length_append, List.length_take, List.length_drop, List.length_set, List.length_replicate, List.length_cons, List.length_nil]); (try simp only [w64, wu64] at hh); (try simp only [w64, wu64]); omega) ?_
      refine Exists.intro none ?_
      exact Exists.intro [(1278, some 2059), (1279, some 2052)] (Exists.intro [] (Exists.intro (((v3_7 ++ [(api_Item.mk (0:Int) y8_2)]), (v3_8 ++ [(api_Item.mk (0:Int) (w64 (y8_2 + y3_1)))]), (w64 (v3_26 + (1:Int)))), m1) (And.intro (hl1 ((v3_7 ++ [(api_Item.mk (0:Int) y8_2)]), (v3_8 ++ [(api_Item.mk (0:Int) (w64 (y8_2 + y3_1)))]), (w64 (v3_26 + (1:Int)))) (Option.some.inj h).symm) (And.intro (Nat.lt_succ_self m1) (And.intro rfl (And.intro rfl (And.intro ff (And.intro rfl (And.intro rfl (And.intro rfl (And.intro rfl (And.intro rfl (And.intro (by first | rfl | (simp only [List.map_append, List.map_cons, List.map_nil, List.map_take, List.map_drop, List.map_set, List.map_replicate]; done) | (simp only [List.map_append, List.map_cons, List.map_nil, List.map_take, List.map_drop, List.map_set, List.map_replicate]; rfl) | (simp only [List.map_append, List.map_cons, List.map_nil, List.map_take, List.map_drop, List.map_set, List.map_replicate, eL, enc_api_Command, enc_tape_Tape, enc_ref27_Cursor, enc_api_Answer, enc_api_Reply]; done) | (simp only [List.map_append, List.map_cons, List.map_nil, List.map_take, List.map_drop, List.map_set, List.map_replicate, eL, enc_api_Command, enc_tape_Tape, enc_ref27_Cursor, enc_api_Answer, enc_api_Reply]; rfl)) (And.intro (by first | rfl | (simp only [List.map_append, List.map_cons, List.map_nil, List.map_take, List.map_drop, List.map_set, List.map_replicate]; done) | (simp only [List.map_append, List.map_cons, List.map_nil, List.map_take, List.map_drop, List.map_set, List.map_replicate]; rfl) | (simp only [List.map_append, List.map_cons, List.map_nil, List.map_take, List.map_drop, List.map_set, List.map_replicate, eL, enc_api_Command, enc_tape_Tape, enc_ref27_Cursor, enc_api_Answer, enc_api_Reply]; done) | (simp only [List.map_append, List.map_cons, List.map_nil, List.map_take, List.map_drop, List.map_set, List.map_replicate, eL, enc_api_Command, enc_tape_Tape, enc_ref27_Cursor, enc_api_Answer, enc_api_Reply]; rfl)) trivial))))))))))))))
    · skip
      replace h := cF g2 h
      replace h := popS h hr1
      refine Exists.intro none ?_
      obtain ⟨y11_1, e11_1, h⟩ := bS h
      refine Exists.intro _ (Exists.intro _ (And.intro (Contract.wk (c_exact_Spread v3_7 y11_1 e11_1) (And.intro ff (And.intro rfl trivial))) (And.intro rfl ?_)))
      refine Exists.intro none ?_
      obtain ⟨y12_1, e12_1, h⟩ := bS h
      refine Exists.intro _ (Exists.intro _ (And.intro (Contract.wk (c_exact_Spread v3_8 y12_1 e12_1) (And.intro ff (And.intro rfl trivial))) (And.intro rfl ?_)))
      refine Exists.intro none ?_
      obtain ⟨y13_3, e13_3, h⟩ := bS h
      obtain ⟨k13_6, h⟩ := ckS h
      obtain ⟨y13_7, e13_7, h⟩ := bS h
      refine Exists.intro _ (Exists.intro _ (And.intro (Contract.wk (c_made_Value p2.V y13_3 e13_3) (And.intro rfl trivial)) (And.intro rfl ?_)))
      refine And.intro (by have hh := (of_decide_eq_true k13_6); (try simp only [fixRows_length, List.length_map, List.length_append, List.length_take, List.length_drop, List.length_set, List.length_replicate, List.length_cons, List.length_nil] at hh); (try simp only [fixRows_length, List.length_map, List.length_append, List.length_take, List.length_drop, List.length_set, List.length_replicate, List.length_cons, List.length_nil]); (try simp only [w64, wu64] at hh); (try simp only [w64, wu64]); omega) ?_
      refine Exists.intro _ (Exists.intro _ (And.intro (Contract.wk (c_exact_Spread (v3_7 ++ [(api_Item.mk (0:Int) y13_3)]) y13_7 e13_7) (And.intro ff (And.intro (by first | rfl | (simp only [List.map_append, List.map_cons, List.map_nil, List.map_take, List.map_drop, List.map_set, List.map_replicate]; done) | (simp only [List.map_append, List.map_cons, List.map_nil, List.map_take, List.map_drop, List.map_set, List.map_replicate]; rfl) | (simp only [List.map_append, List.map_cons, List.map_nil, List.map_take, List.map_drop, List.map_set, List.map_replicate, eL, enc_api_Command, enc_tape_Tape, enc_ref27_Cursor, enc_api_Answer, enc_api_Reply]; done) | (simp only [List.map_append, List.map_cons, List.map_nil, List.map_take, List.map_drop, List.map_set, List.map_replicate, eL, enc_api_Command, enc_tape_Tape, enc_ref27_Cursor, enc_api_Answer, enc_api_Reply]; rfl)) trivial))) (And.intro rfl ?_)))
      refine Exists.intro none ?_
      obtain ⟨y14_15, e14_15, h⟩ := bS h
      obtain ⟨y14_19, e14_19, h⟩ := bS h
      refine Exists.intro none ?_
      refine And.intro (fun g3 => ?_) (fun g3 => ?_)
      · skip
        refine And.intro (fun g4 => ?_) (fun g4 => ?_)
        · skip
          refine And.intro (fun g5 => ?_) (fun g5 => ?_)
          · skip
            refine And.intro (fun g6 => ?_) (fun g6 => ?_)
            · skip
              refine Exists.intro _ (Exists.intro _ (And.intro (Contract.wk (c_ref03_Compare y11_1.1 y13_7.1 y14_15 (gdT (aR (aR (aR g3 g4) g5) g6) e14_15)) (And.intro rfl (And.intro rfl (And.intro rfl (And.intro rfl trivial))))) (And.intro rfl ?_)))
              refine And.intro (fun g7 => ?_) (fun g7 => ?_)
              · skip
                refine Exists.intro _ (Exists.intro _ (And.intro (Contract.wk (c_law08_awake y14_19 (gdT (aR (aR (aR (aR g3 g4) g5) g6) g7) e14_19)) trivial) (And.intro rfl ?_)))
                replace h := Option.some.inj h
                first | subst h | rw [← h]
                exact (And.intro (Eq.symm (aR (aR (aR (aR (aR g3 g4) g5) g6) g7) rfl)) trivial)
              · skip
                replace h := Option.some.inj h
                first | subst h | rw [← h]
                exact (And.intro (Eq.symm (aL (aR (aR (aR (aR g3 g4) g5) g6) g7))) trivial)
            · skip
              replace h := Option.some.inj h
              first | subst h | rw [← h]
              exact (And.intro (Eq.symm (aL (aL (aR (aR (aR g3 g4) g5) g6)))) trivial)
          · skip
            replace h := Option.some.inj h
            first | subst h | rw [← h]
            exact (And.intro (Eq.symm (aL (aL (aL (aR (aR g3 g4) g5))))) trivial)
        · skip
          replace h := Option.some.inj h
          first | subst h | rw [← h]
          exact (And.intro (Eq.symm (aL (aL (aL (aL (aR g3 g4)))))) trivial)
      · skip
        replace h := Option.some.inj h
        first | subst h | rw [← h]
        exact (And.intro (Eq.symm (aL (aL (aL (aL (aL g3)))))) trivial)

end Go.Proofs.Ytkdlfgjiinlkdaa
