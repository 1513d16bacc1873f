/- The contracts: each function of the program does what its function on plain data says. Made by program. -/
import Derived.Test.YtbolhhoklijnpaaTab
import Derived.Test.YtbolhhoklijnpaaWin
set_option linter.unusedVariables false
set_option linter.unusedSimpArgs false
set_option linter.unnecessarySimpa false
set_option maxHeartbeats 4000000
namespace Go.Proofs.Ytbolhhoklijnpaa
open Go.Vc Go.Dec Go.Win

theorem c_num_size' (p0 : Int) (r : Int) (h : num_size p0 = r) : Contract Try.prog 120 [.int .i64 p0] [] (.int .u64 r) [] := by
  refine contract_of_vcs tab_ok orders_ok Try.func120 Try.call120 (by kernel_rfl) 0 rfl rfl _ rfl ?_
  delta num_size at h
  refine Exists.intro none ?_
  refine Exists.intro none ?_
  refine And.intro (fun g1 => ?_) (fun g1 => ?_)
  · skip
    replace h := cT g1 h
    refine Exists.intro none ?_
    subst h
    exact (And.intro rfl trivial)
  · skip
    replace h := cF g1 h
    refine Exists.intro none ?_
    subst h
    exact (And.intro rfl trivial)
theorem c_num_size (p0 : Int) : Contract Try.prog 120 [.int .i64 p0] [] (.int .u64 (num_size p0)) [] := c_num_size' p0 (num_size p0) rfl

theorem c_math_bits_Mul64' (p0 : Int) (p1 : Int) (r : (Int × Int)) (h : math_bits_Mul64 p0 p1 = r) : Contract Try.prog 119 [.int .u64 p0, .int .u64 p1] [] (.tup [.int .u64 r.1, .int .u64 r.2]) [] := by
  refine contract_of_vcs tab_ok orders_ok Try.func119 Try.call119 (by kernel_rfl) 0 rfl rfl _ rfl ?_
  delta math_bits_Mul64 at h
  refine Exists.intro none ?_
  refine Exists.intro none ?_
  refine Exists.intro none ?_
  refine And.intro (by decide) ?_
  refine Exists.intro none ?_
  refine Exists.intro none ?_
  refine And.intro (by decide) ?_
  refine Exists.intro none ?_
  refine Exists.intro none ?_
  refine And.intro (by decide) ?_
  refine Exists.intro none ?_
  refine Exists.intro none ?_
  refine And.intro (by decide) ?_
  refine Exists.intro none ?_
  refine Exists.intro none ?_
  refine And.intro (by decide) ?_
  refine Exists.intro none ?_
  subst h
  exact (And.intro rfl (And.intro rfl trivial))
theorem c_math_bits_Mul64 (p0 : Int) (p1 : Int) : Contract Try.prog 119 [.int .u64 p0, .int .u64 p1] [] (.tup [.int .u64 (math_bits_Mul64 p0 p1).1, .int .u64 (math_bits_Mul64 p0 p1).2]) [] := c_math_bits_Mul64' p0 p1 (math_bits_Mul64 p0 p1) rfl

theorem c_num_Mul' (p0 : Int) (p1 : Int) (r : (Int × Bool)) (h : num_Mul p0 p1 = r) : Contract Try.prog 67 [.int .i64 p0, .int .i64 p1] [] (.tup [.int .i64 r.1, .sb r.2]) [] := by
  refine contract_of_vcs tab_ok orders_ok Try.func67 Try.call67 (by kernel_rfl) 0 rfl rfl _ rfl ?_
  delta num_Mul at h
  refine Exists.intro none ?_
  refine Exists.intro none ?_
  refine Exists.intro _ (Exists.intro _ (And.intro (Contract.wk (c_num_size p0) (And.intro rfl trivial)) (And.intro rfl ?_)))
  refine Exists.intro _ (Exists.intro _ (And.intro (Contract.wk (c_num_size p1) (And.intro rfl trivial)) (And.intro rfl ?_)))
  refine Exists.intro _ (Exists.intro _ (And.intro (Contract.wk (c_math_bits_Mul64 (num_size p0) (num_size p1)) (And.intro rfl (And.intro rfl trivial))) (And.intro rfl ?_)))
  refine Exists.intro none ?_
  refine Exists.intro none ?_
  refine Exists.intro none ?_
  refine Exists.intro (some (⟨Int, fun j1_9 => [(.tmp 6, .av (.int .u64 (math_bits_Mul64 (num_size p0) (num_size p1)).1)), (.tmp 7, .av (.int .u64 (math_bits_Mul64 (num_size p0) (num_size p1)).2)), (.tmp 8, .av (.sb (!((decide (p0 < (0:Int))) == (decide (p1 < (0:Int))))))), (.tmp 9, .av (.int .u64 j1_9))], fun j1_9 => num_Mul_j1 p0 p1 (math_bits_Mul64 (num_size p0) (num_size p1)) j1_9 = r, fun _ => 0⟩, 1000000)) (And.intro ?_ ?_)
  · skip
    refine And.intro (fun g1 => ?_) (fun g1 => ?_)
    · skip
      replace h := cT g1 h
      refine Exists.intro none ?_
      exact Exists.intro [] (Exists.intro [] (Exists.intro (wu64 ((9223372036854775807:Int) + (1:Int))) (And.intro h (And.intro rfl (And.intro rfl (And.intro rfl (And.intro rfl (And.intro rfl trivial))))))))
    · skip
      replace h := cF g1 h
      exact Exists.intro [] (Exists.intro [] (Exists.intro (9223372036854775807:Int) (And.intro h (And.intro rfl (And.intro rfl (And.intro rfl (And.intro rfl (And.intro rfl trivial))))))))
  · skip
    clear h
    refine fun j1_9 h => ?_
    replace h : num_Mul_j1 p0 p1 (math_bits_Mul64 (num_size p0) (num_size p1)) j1_9 = r := h
    delta num_Mul_j1 at h
    refine Exists.intro none ?_
    refine Exists.intro none ?_
    refine And.intro (fun g2 => ?_) (fun g2 => ?_)
    · skip
      refine And.intro (fun g3 => ?_) (fun g3 => ?_)
      · skip
        replace h := cT (oR g2 g3) h
        refine Exists.intro none ?_
        subst h
        exact (And.intro rfl (And.intro rfl trivial))
      · skip
        replace h := cF (oR g2 g3) h
        refine Exists.intro none ?_
        refine And.intro (fun g4 => ?_) (fun g4 => ?_)
        · skip
          replace h := cT g4 h
          refine Exists.intro none ?_
          subst h
          exact (And.intro rfl (And.intro rfl trivial))
        · skip
          replace h := cF g4 h
          refine Exists.intro none ?_
          subst h
          exact (And.intro rfl (And.intro rfl trivial))
    · skip
      replace h := cT (oL g2) h
      refine Exists.intro none ?_
      subst h
      exact (And.intro rfl (And.intro rfl trivial))
theorem c_num_Mul (p0 : Int) (p1 : Int) : Contract Try.prog 67 [.int .i64 p0, .int .i64 p1] [] (.tup [.int .i64 (num_Mul p0 p1).1, .sb (num_Mul p0 p1).2]) [] := c_num_Mul' p0 p1 (num_Mul p0 p1) rfl

theorem c_num_Add' (p0 : Int) (p1 : Int) (r : (Int × Bool)) (h : num_Add p0 p1 = r) : Contract Try.prog 68 [.int .i64 p0, .int .i64 p1] [] (.tup [.int .i64 r.1, .sb r.2]) [] := by
  refine contract_of_vcs tab_ok orders_ok Try.func68 Try.call68 (by kernel_rfl) 0 rfl rfl _ rfl ?_
  delta num_Add at h
  refine Exists.intro none ?_
  refine Exists.intro none ?_
  refine Exists.intro none ?_
  refine Exists.intro (some (⟨Unit, fun _ => [(.tmp 6, .av (.int .i64 (w64 (p0 + p1)))), (.tmp 21, .av (.sb (((decide (p0 ≥ (0:Int))) == (decide (p1 ≥ (0:Int)))) && (!((decide ((w64 (p0 + p1)) ≥ (0:Int))) == (decide (p0 ≥ (0:Int))))))))], fun _ => True, fun _ => 0⟩, 1000000)) (And.intro ?_ (fun _ _ => ?_))
  · skip
    refine And.intro (fun g1 => ?_) (fun g1 => ?_)
    · skip
      exact Exists.intro [] (Exists.intro [] (Exists.intro () (And.intro trivial (And.intro rfl (And.intro rfl (And.intro (Eq.symm (aR g1 rfl)) trivial))))))
    · skip
      exact Exists.intro [] (Exists.intro [] (Exists.intro () (And.intro trivial (And.intro rfl (And.intro rfl (And.intro (Eq.symm (aL g1)) trivial))))))
  · skip
    refine And.intro (fun g2 => ?_) (fun g2 => ?_)
    · skip
      replace h := cT g2 h
      refine Exists.intro none ?_
      subst h
      exact (And.intro rfl (And.intro rfl trivial))
    · skip
      replace h := cF g2 h
      refine Exists.intro none ?_
      subst h
      exact (And.intro rfl (And.intro rfl trivial))
theorem c_num_Add (p0 : Int) (p1 : Int) : Contract Try.prog 68 [.int .i64 p0, .int .i64 p1] [] (.tup [.int .i64 (num_Add p0 p1).1, .sb (num_Add p0 p1).2]) [] := c_num_Add' p0 p1 (num_Add p0 p1) rfl

theorem c_exact_Squares (p0 : (List api_Item)) (r : (Int × Bool)) (h : exact_Squares p0 = some r) : Contract Try.prog 18 [.lst 2 false (List.map enc_api_Item p0)] [] (.tup [.int .i64 r.1, .sb r.2]) [] := by
  refine contract_of_vcs tab_ok orders_ok Try.func18 Try.call18 (by kernel_rfl) 0 rfl rfl _ rfl ?_
  delta exact_Squares at h
  refine Exists.intro none ?_
  refine Exists.intro none ?_
  refine Exists.intro none ?_
  refine Exists.intro [.int .i64 (p0.length : Int)] (And.intro (lenS enc_api_Item p0) ?_)
  replace h : exact_Squares_l2 p0 (0:Int) (0:Int) = some r := h
  delta exact_Squares_l2 at h
  obtain ⟨n1, h⟩ := loopS h
  refine Exists.intro ⟨(Int × Int) × Nat, fun q => [(.tmp 4, .av (.int .i64 q.1.1)), (.tmp 9, .av (.lst 2 false (List.map enc_api_Item p0))), (.tmp 10, .av (.int .i64 (p0.length : Int))), (.tmp 11, .av (.int .i64 q.1.2))], fun q => loopN (fun (s : (Int × Int)) => exact_Squares_l2s p0 s.1 s.2) q.2 q.1 = some r, fun q => q.2⟩ (And.intro (Exists.intro [] (Exists.intro [] (Exists.intro (((0:Int), (0:Int)), n1) (And.intro h (And.intro rfl (And.intro rfl (And.intro ff (And.intro rfl (And.intro rfl (And.intro rfl trivial)))))))))) ?_)
  clear h
  refine fun q h => ?_
  obtain ⟨⟨v2_4, v2_11⟩, n1⟩ := q
  obtain ⟨m1, x1, hm1, h, hl1, hr1⟩ := loopN_step h
  replace hm1 : n1 = m1 + 1 := hm1
  subst hm1
  replace h : exact_Squares_l2s p0 v2_4 v2_11 = some x1 := h
  delta exact_Squares_l2s at h
  refine Exists.intro none ?_
  refine And.intro (fun g1 => ?_) (fun g1 => ?_)
  · skip
    replace h := cT g1 h
    refine Exists.intro none ?_
    obtain ⟨x4_0, e4_0, h⟩ := bS h
    refine Exists.intro [.int .i64 x4_0.T, .int .i64 x4_0.V] (And.intro (idx_map enc_api_Item e4_0) ?_)
    refine Exists.intro none ?_
    refine Exists.intro _ (Exists.intro _ (And.intro (Contract.wk (c_num_Mul x4_0.V x4_0.V) (And.intro rfl (And.intro rfl trivial))) (And.intro rfl ?_)))
    refine Exists.intro none ?_
    refine And.intro (fun g2 => ?_) (fun g2 => ?_)
    · skip
      replace h := cT g2 h
      refine Exists.intro none ?_
      replace h := retS h hr1
      subst h
      exact (And.intro rfl (And.intro rfl trivial))
    · skip
      replace h := cF g2 h
      refine Exists.intro none ?_
      refine Exists.intro _ (Exists.intro _ (And.intro (Contract.wk (c_num_Add v2_4 (num_Mul x4_0.V x4_0.V).1) (And.intro rfl (And.intro rfl trivial))) (And.intro rfl ?_)))
      refine Exists.intro none ?_
      refine And.intro (fun g3 => ?_) (fun g3 => ?_)
      · skip
        replace h := cT g3 h
        refine Exists.intro none ?_
        replace h := retS h hr1
        subst h
        exact (And.intro rfl (And.intro rfl trivial))
      · skip
        replace h := cF g3 h
        refine Exists.intro none ?_
        exact Exists.intro [] (Exists.intro [] (Exists.intro (((num_Add v2_4 (num_Mul x4_0.V x4_0.V).1).1, (w64 (v2_11 + (1:Int)))), m1) (And.intro (hl1 ((num_Add v2_4 (num_Mul x4_0.V x4_0.V).1).1, (w64 (v2_11 + (1:Int)))) (Option.some.inj h).symm) (And.intro (Nat.lt_succ_self m1) (And.intro rfl (And.intro rfl (And.intro ff (And.intro rfl (And.intro rfl (And.intro rfl trivial))))))))))
  · skip
    replace h := cF g1 h
    replace h := popS h hr1
    refine Exists.intro none ?_
    replace h := Option.some.inj h
    subst h
    exact (And.intro rfl (And.intro rfl trivial))

theorem c_exact_Count' (p0 : (List api_Item)) (r : Int) (h : exact_Count p0 = r) : Contract Try.prog 20 [.lst 2 false (List.map enc_api_Item p0)] [] (.int .i64 r) [] := by
  refine contract_of_vcs tab_ok orders_ok Try.func20 Try.call20 (by kernel_rfl) 0 rfl rfl _ rfl ?_
  delta exact_Count at h
  refine Exists.intro none ?_
  refine Exists.intro none ?_
  refine Exists.intro [.int .i64 (p0.length : Int)] (And.intro (lenS enc_api_Item p0) ?_)
  subst h
  exact (And.intro rfl trivial)
theorem c_exact_Count (p0 : (List api_Item)) : Contract Try.prog 20 [.lst 2 false (List.map enc_api_Item p0)] [] (.int .i64 (exact_Count p0)) [] := c_exact_Count' p0 (exact_Count p0) rfl

theorem c_law08_awake (r : Bool) (h : law08_awake = some r) : Contract Try.prog 15 [] [] (.sb r) [] := by
  refine contract_of_vcs tab_ok orders_ok Try.func15 Try.call15 (by kernel_rfl) 0 rfl rfl _ rfl ?_
  delta law08_awake at h
  refine Exists.intro none ?_
  refine Exists.intro none ?_
  refine Exists.intro none ?_
  obtain ⟨y2_1, e2_1, h⟩ := bS h
  refine Exists.intro _ (Exists.intro _ (And.intro (Contract.wk (c_exact_Squares [(api_Item.mk (0:Int) (2:Int)), (api_Item.mk (1:Int) (4:Int)), (api_Item.mk (1:Int) (9:Int))] y2_1 e2_1) (And.intro ff (And.intro (by first | rfl | (simp only [List.map_append, List.map_cons, List.map_nil, List.map_take, List.map_drop, List.map_set, List.map_replicate]; done) | (simp only [List.map_append, List.map_cons, List.map_nil, List.map_take, List.map_drop, List.map_set, List.map_replicate]; rfl) | (simp only [List.map_append, List.map_cons, List.map_nil, List.map_take, List.map_drop, List.map_set, List.map_replicate, eL, enc_api_Command, enc_tape_Tape, enc_ref27_Cursor, enc_api_Chain, enc_api_Sample, enc_chain_source, enc_made_Tape, enc_api_Answer, enc_api_Reply]; done) | (simp only [List.map_append, List.map_cons, List.map_nil, List.map_take, List.map_drop, List.map_set, List.map_replicate, eL, enc_api_Command, enc_tape_Tape, enc_ref27_Cursor, enc_api_Chain, enc_api_Sample, enc_chain_source, enc_made_Tape, enc_api_Answer, enc_api_Reply]; rfl)) trivial))) (And.intro rfl ?_)))
  refine Exists.intro none ?_
  refine Exists.intro none ?_
  refine And.intro (fun g1 => ?_) (fun g1 => ?_)
  · skip
    refine And.intro (fun g2 => ?_) (fun g2 => ?_)
    · skip
      refine Exists.intro _ (Exists.intro _ (And.intro (Contract.wk (c_exact_Count [(api_Item.mk (0:Int) (2:Int)), (api_Item.mk (1:Int) (4:Int)), (api_Item.mk (1:Int) (9:Int))]) (And.intro ff (And.intro (by first | rfl | (simp only [List.map_append, List.map_cons, List.map_nil, List.map_take, List.map_drop, List.map_set, List.map_replicate]; done) | (simp only [List.map_append, List.map_cons, List.map_nil, List.map_take, List.map_drop, List.map_set, List.map_replicate]; rfl) | (simp only [List.map_append, List.map_cons, List.map_nil, List.map_take, List.map_drop, List.map_set, List.map_replicate, eL, enc_api_Command, enc_tape_Tape, enc_ref27_Cursor, enc_api_Chain, enc_api_Sample, enc_chain_source, enc_made_Tape, enc_api_Answer, enc_api_Reply]; done) | (simp only [List.map_append, List.map_cons, List.map_nil, List.map_take, List.map_drop, List.map_set, List.map_replicate, eL, enc_api_Command, enc_tape_Tape, enc_ref27_Cursor, enc_api_Chain, enc_api_Sample, enc_chain_source, enc_made_Tape, enc_api_Answer, enc_api_Reply]; rfl)) trivial))) (And.intro rfl ?_)))
      replace h := Option.some.inj h
      subst h
      exact (And.intro (Eq.symm (aR (aR g1 g2) rfl)) trivial)
    · skip
      replace h := Option.some.inj h
      subst h
      exact (And.intro (Eq.symm (aL (aR g1 g2))) trivial)
  · skip
    replace h := Option.some.inj h
    subst h
    exact (And.intro (Eq.symm (aL (aL g1))) trivial)

theorem c_wide_Of' (p0 : Int) (r : api_Wide) (h : wide_Of p0 = r) : Contract Try.prog 73 [.int .u64 p0] [] (.agg [.int .u64 r.Hi, .int .u64 r.Lo]) [] := by
  refine contract_of_vcs tab_ok orders_ok Try.func73 Try.call73 (by kernel_rfl) 0 rfl rfl _ rfl ?_
  delta wide_Of at h
  refine Exists.intro none ?_
  refine Exists.intro none ?_
  subst h
  exact (And.intro rfl (And.intro rfl trivial))
theorem c_wide_Of (p0 : Int) : Contract Try.prog 73 [.int .u64 p0] [] (.agg [.int .u64 (wide_Of p0).Hi, .int .u64 (wide_Of p0).Lo]) [] := c_wide_Of' p0 (wide_Of p0) rfl

theorem c_math_bits_Add64 (p0 p1 p2 : Int) (r : (Int × Int)) (h : math_bits_Add64 p0 p1 p2 = some r) : Contract Try.prog 123 [.int .u64 p0, .int .u64 p1, .int .u64 p2] [] (.tup [.int .u64 r.1, .int .u64 r.2]) [] :=
  ext_Add64 Try.func123 (by kernel_rfl) (by kernel_rfl) (by kernel_rfl) (by kernel_rfl) p0 p1 p2 r h

theorem c_wide_Add (p0 : api_Wide) (p1 : api_Wide) (r : (api_Wide × Bool)) (h : wide_Add p0 p1 = some r) : Contract Try.prog 74 [.agg [.int .u64 p0.Hi, .int .u64 p0.Lo], .agg [.int .u64 p1.Hi, .int .u64 p1.Lo]] [] (.tup [.agg [.int .u64 r.1.Hi, .int .u64 r.1.Lo], .sb r.2]) [] := by
  refine contract_of_vcs tab_ok orders_ok Try.func74 Try.call74 (by kernel_rfl) 0 rfl rfl _ rfl ?_
  delta wide_Add at h
  refine Exists.intro none ?_
  refine Exists.intro none ?_
  obtain ⟨y1_4, e1_4, h⟩ := bS h
  refine Exists.intro _ (Exists.intro _ (And.intro (Contract.wk (c_math_bits_Add64 p0.Lo p1.Lo (0:Int) y1_4 e1_4) (And.intro rfl (And.intro rfl (And.intro rfl trivial)))) (And.intro rfl ?_)))
  refine Exists.intro none ?_
  obtain ⟨y2_5, e2_5, h⟩ := bS h
  refine Exists.intro _ (Exists.intro _ (And.intro (Contract.wk (c_math_bits_Add64 p0.Hi p1.Hi y1_4.2 y2_5 e2_5) (And.intro rfl (And.intro rfl (And.intro rfl trivial)))) (And.intro rfl ?_)))
  refine Exists.intro none ?_
  refine And.intro (fun g1 => ?_) (fun g1 => ?_)
  · skip
    replace h := cT g1 h
    refine Exists.intro none ?_
    replace h := Option.some.inj h
    subst h
    exact (And.intro rfl (And.intro rfl (And.intro rfl trivial)))
  · skip
    replace h := cF g1 h
    refine Exists.intro none ?_
    replace h := Option.some.inj h
    subst h
    exact (And.intro rfl (And.intro rfl (And.intro rfl trivial)))

theorem c_ref02_Of' (p0 : Int) (r : api_Wide) (h : ref02_Of p0 = r) : Contract Try.prog 63 [.int .u64 p0] [] (.agg [.int .u64 r.Hi, .int .u64 r.Lo]) [] := by
  refine contract_of_vcs tab_ok orders_ok Try.func63 Try.call63 (by kernel_rfl) 0 rfl rfl _ rfl ?_
  delta ref02_Of at h
  refine Exists.intro none ?_
  refine Exists.intro none ?_
  subst h
  exact (And.intro rfl (And.intro rfl trivial))
theorem c_ref02_Of (p0 : Int) : Contract Try.prog 63 [.int .u64 p0] [] (.agg [.int .u64 (ref02_Of p0).Hi, .int .u64 (ref02_Of p0).Lo]) [] := c_ref02_Of' p0 (ref02_Of p0) rfl

theorem c_ref02_Add (p0 : api_Wide) (p1 : api_Wide) (r : (api_Wide × Bool)) (h : ref02_Add p0 p1 = some r) : Contract Try.prog 78 [.agg [.int .u64 p0.Hi, .int .u64 p0.Lo], .agg [.int .u64 p1.Hi, .int .u64 p1.Lo]] [] (.tup [.agg [.int .u64 r.1.Hi, .int .u64 r.1.Lo], .sb r.2]) [] := by
  refine contract_of_vcs tab_ok orders_ok Try.func78 Try.call78 (by kernel_rfl) 0 rfl rfl _ rfl ?_
  delta ref02_Add at h
  refine Exists.intro none ?_
  refine Exists.intro none ?_
  obtain ⟨y1_4, e1_4, h⟩ := bS h
  refine Exists.intro _ (Exists.intro _ (And.intro (Contract.wk (c_math_bits_Add64 p0.Lo p1.Lo (0:Int) y1_4 e1_4) (And.intro rfl (And.intro rfl (And.intro rfl trivial)))) (And.intro rfl ?_)))
  refine Exists.intro none ?_
  obtain ⟨y2_5, e2_5, h⟩ := bS h
  refine Exists.intro _ (Exists.intro _ (And.intro (Contract.wk (c_math_bits_Add64 p0.Hi p1.Hi y1_4.2 y2_5 e2_5) (And.intro rfl (And.intro rfl (And.intro rfl trivial)))) (And.intro rfl ?_)))
  refine Exists.intro none ?_
  refine And.intro (fun g1 => ?_) (fun g1 => ?_)
  · skip
    replace h := cT g1 h
    refine Exists.intro none ?_
    replace h := Option.some.inj h
    subst h
    exact (And.intro rfl (And.intro rfl (And.intro rfl trivial)))
  · skip
    replace h := cF g1 h
    refine Exists.intro none ?_
    replace h := Option.some.inj h
    subst h
    exact (And.intro rfl (And.intro rfl (And.intro rfl trivial)))

theorem c_ref02_Product' (p0 : Int) (p1 : Int) (r : api_Wide) (h : ref02_Product p0 p1 = r) : Contract Try.prog 121 [.int .u64 p0, .int .u64 p1] [] (.agg [.int .u64 r.Hi, .int .u64 r.Lo]) [] := by
  refine contract_of_vcs tab_ok orders_ok Try.func121 Try.call121 (by kernel_rfl) 0 rfl rfl _ rfl ?_
  delta ref02_Product at h
  refine Exists.intro none ?_
  refine Exists.intro none ?_
  refine Exists.intro _ (Exists.intro _ (And.intro (Contract.wk (c_math_bits_Mul64 p0 p1) (And.intro rfl (And.intro rfl trivial))) (And.intro rfl ?_)))
  refine Exists.intro none ?_
  subst h
  exact (And.intro rfl (And.intro rfl trivial))
theorem c_ref02_Product (p0 : Int) (p1 : Int) : Contract Try.prog 121 [.int .u64 p0, .int .u64 p1] [] (.agg [.int .u64 (ref02_Product p0 p1).Hi, .int .u64 (ref02_Product p0 p1).Lo]) [] := c_ref02_Product' p0 p1 (ref02_Product p0 p1) rfl

theorem c_exact_tick' (p0 : Int) (r : Bool) (h : exact_tick p0 = r) : Contract Try.prog 70 [.int .i64 p0] [] (.sb r) [] := by
  refine contract_of_vcs tab_ok orders_ok Try.func70 Try.call70 (by kernel_rfl) 0 rfl rfl _ rfl ?_
  delta exact_tick at h
  refine Exists.intro none ?_
  refine Exists.intro none ?_
  refine Exists.intro none ?_
  refine And.intro (fun g1 => ?_) (fun g1 => ?_)
  · skip
    subst h
    exact (And.intro (Eq.symm (aR g1 rfl)) trivial)
  · skip
    subst h
    exact (And.intro (Eq.symm (aL g1)) trivial)
theorem c_exact_tick (p0 : Int) : Contract Try.prog 70 [.int .i64 p0] [] (.sb (exact_tick p0)) [] := c_exact_tick' p0 (exact_tick p0) rfl

theorem c_wide_Product' (p0 : Int) (p1 : Int) (r : api_Wide) (h : wide_Product p0 p1 = r) : Contract Try.prog 122 [.int .u64 p0, .int .u64 p1] [] (.agg [.int .u64 r.Hi, .int .u64 r.Lo]) [] := by
  refine contract_of_vcs tab_ok orders_ok Try.func122 Try.call122 (by kernel_rfl) 0 rfl rfl _ rfl ?_
  delta wide_Product at h
  refine Exists.intro none ?_
  refine Exists.intro none ?_
  refine Exists.intro _ (Exists.intro _ (And.intro (Contract.wk (c_math_bits_Mul64 p0 p1) (And.intro rfl (And.intro rfl trivial))) (And.intro rfl ?_)))
  refine Exists.intro none ?_
  subst h
  exact (And.intro rfl (And.intro rfl trivial))
theorem c_wide_Product (p0 : Int) (p1 : Int) : Contract Try.prog 122 [.int .u64 p0, .int .u64 p1] [] (.agg [.int .u64 (wide_Product p0 p1).Hi, .int .u64 (wide_Product p0 p1).Lo]) [] := c_wide_Product' p0 p1 (wide_Product p0 p1) rfl

theorem c_wide_Mul (p0 : api_Wide) (p1 : api_Wide) (r : (api_Wide × Bool)) (h : wide_Mul p0 p1 = some r) : Contract Try.prog 72 [.agg [.int .u64 p0.Hi, .int .u64 p0.Lo], .agg [.int .u64 p1.Hi, .int .u64 p1.Lo]] [] (.tup [.agg [.int .u64 r.1.Hi, .int .u64 r.1.Lo], .sb r.2]) [] := by
  refine contract_of_vcs tab_ok orders_ok Try.func72 Try.call72 (by kernel_rfl) 0 rfl rfl _ rfl ?_
  delta wide_Mul at h
  refine Exists.intro none ?_
  refine Exists.intro none ?_
  refine Exists.intro (some (⟨Unit, fun _ => [(.tmp 2, .av (.ptr 0 0)), (.tmp 3, .av (.ptr 1 0)), (.tmp 4, .av (.ptr 2 0)), (.tmp 15, .av (.sb ((p0.Hi != (0:Int)) && (p1.Hi != (0:Int))))), (.box 0, .box [.int .u64 p0.Hi, .int .u64 p0.Lo]), (.box 1, .box [.int .u64 p1.Hi, .int .u64 p1.Lo]), (.box 2, .box [.int .u64 (0:Int), .int .u64 (0:Int)])], fun _ => True, fun _ => 0⟩, 1000000)) (And.intro ?_ (fun _ _ => ?_))
  · skip
    refine And.intro (fun g1 => ?_) (fun g1 => ?_)
    · skip
      exact Exists.intro [] (Exists.intro [] (Exists.intro () (And.intro trivial (And.intro rfl (And.intro (Eq.symm (aR g1 rfl)) (And.intro rfl (And.intro rfl (And.intro rfl (And.intro rfl (And.intro rfl (And.intro rfl trivial)))))))))))
    · skip
      exact Exists.intro [] (Exists.intro [] (Exists.intro () (And.intro trivial (And.intro rfl (And.intro (Eq.symm (aL g1)) (And.intro rfl (And.intro rfl (And.intro rfl (And.intro rfl (And.intro rfl (And.intro rfl trivial)))))))))))
  · skip
    refine And.intro (fun g2 => ?_) (fun g2 => ?_)
    · skip
      replace h := cT g2 h
      refine Exists.intro none ?_
      replace h := Option.some.inj h
      subst h
      exact (And.intro rfl (And.intro rfl (And.intro rfl trivial)))
    · skip
      replace h := cF g2 h
      refine Exists.intro none ?_
      refine Exists.intro (some (⟨Int × Int × Int × Int, fun q => [(.tmp 2, .av (.ptr 0 0)), (.tmp 3, .av (.ptr 1 0)), (.tmp 4, .av (.ptr 2 0)), (.box 0, .box [.int .u64 q.1, .int .u64 q.2.1]), (.box 1, .box [.int .u64 q.2.2.1, .int .u64 q.2.2.2]), (.box 2, .box [.int .u64 (0:Int), .int .u64 (0:Int)])], fun q => wide_Mul_j2 q.1 q.2.1 q.2.2.1 q.2.2.2 = some r, fun _ => 0⟩, 2000000)) (And.intro ?_ ?_)
      · skip
        refine And.intro (fun g3 => ?_) (fun g3 => ?_)
        · skip
          replace h := cT g3 h
          refine Exists.intro none ?_
          exact Exists.intro [] (Exists.intro [] (Exists.intro (p1.Hi, p1.Lo, p0.Hi, p0.Lo) (And.intro h (And.intro rfl (And.intro rfl (And.intro rfl (And.intro rfl (And.intro rfl (And.intro rfl (And.intro rfl trivial))))))))))
        · skip
          replace h := cF g3 h
          exact Exists.intro [] (Exists.intro [] (Exists.intro (p0.Hi, p0.Lo, p1.Hi, p1.Lo) (And.intro h (And.intro rfl (And.intro rfl (And.intro rfl (And.intro rfl (And.intro rfl (And.intro rfl (And.intro rfl trivial))))))))))
      · skip
        clear h
        refine fun q h => ?_
        obtain ⟨j2_b0x0_0, j2_b0x0_1, j2_b0x1_0, j2_b0x1_1⟩ := q
        replace h : wide_Mul_j2 j2_b0x0_0 j2_b0x0_1 j2_b0x1_0 j2_b0x1_1 = some r := h
        delta wide_Mul_j2 at h
        refine Exists.intro none ?_
        refine Exists.intro _ (Exists.intro _ (And.intro (Contract.wk (c_wide_Product j2_b0x0_1 j2_b0x1_1) (And.intro rfl (And.intro rfl trivial))) (And.intro rfl ?_)))
        refine Exists.intro _ (Exists.intro _ (And.intro (Contract.wk (c_wide_Product j2_b0x0_1 j2_b0x1_0) (And.intro rfl (And.intro rfl trivial))) (And.intro rfl ?_)))
        refine Exists.intro none ?_
        refine And.intro (fun g4 => ?_) (fun g4 => ?_)
        · skip
          replace h := cT g4 h
          refine Exists.intro none ?_
          replace h := Option.some.inj h
          subst h
          exact (And.intro rfl (And.intro rfl (And.intro rfl trivial)))
        · skip
          replace h := cF g4 h
          refine Exists.intro none ?_
          obtain ⟨y8_4, e8_4, h⟩ := bS h
          refine Exists.intro _ (Exists.intro _ (And.intro (Contract.wk (c_wide_Add (wide_Product j2_b0x0_1 j2_b0x1_1) (api_Wide.mk (wide_Product j2_b0x0_1 j2_b0x1_0).Lo (0:Int)) y8_4 e8_4) (And.intro rfl (And.intro rfl (And.intro rfl (And.intro rfl trivial))))) (And.intro rfl ?_)))
          replace h := Option.some.inj h
          subst h
          exact (And.intro rfl (And.intro rfl (And.intro rfl trivial)))

theorem c_wide_Pow (p0 : Int) (p1 : Int) (r : (api_Wide × Bool)) (h : wide_Pow p0 p1 = some r) : Contract Try.prog 71 [.int .u64 p0, .int .i64 p1] [] (.tup [.agg [.int .u64 r.1.Hi, .int .u64 r.1.Lo], .sb r.2]) [] := by
  refine contract_of_vcs tab_ok orders_ok Try.func71 Try.call71 (by kernel_rfl) 0 rfl rfl _ rfl ?_
  delta wide_Pow at h
  refine Exists.intro none ?_
  refine Exists.intro none ?_
  refine And.intro (fun g1 => ?_) (fun g1 => ?_)
  · skip
    replace h := cT g1 h
    refine Exists.intro none ?_
    replace h := Option.some.inj h
    subst h
    exact (And.intro rfl (And.intro rfl (And.intro rfl trivial)))
  · skip
    replace h := cF g1 h
    refine Exists.intro none ?_
    refine And.intro (fun g2 => ?_) (fun g2 => ?_)
    · skip
      replace h := cT g2 h
      refine Exists.intro none ?_
      refine Exists.intro (some (⟨Unit, fun _ => [(.tmp 4, .av (.ptr 0 0)), (.tmp 19, .av (.sb ((p0 == (0:Int)) && (decide (p1 > (0:Int)))))), (.box 0, .box [.int .u64 (0:Int), .int .u64 (0:Int)])], fun _ => True, fun _ => 0⟩, 1000000)) (And.intro ?_ (fun _ _ => ?_))
      · skip
        refine And.intro (fun g3 => ?_) (fun g3 => ?_)
        · skip
          exact Exists.intro [] (Exists.intro [] (Exists.intro () (And.intro trivial (And.intro rfl (And.intro (Eq.symm (aR g3 rfl)) (And.intro rfl (And.intro rfl trivial)))))))
        · skip
          exact Exists.intro [] (Exists.intro [] (Exists.intro () (And.intro trivial (And.intro rfl (And.intro (Eq.symm (aL g3)) (And.intro rfl (And.intro rfl trivial)))))))
      · skip
        refine And.intro (fun g4 => ?_) (fun g4 => ?_)
        · skip
          replace h := cT g4 h
          refine Exists.intro none ?_
          replace h := Option.some.inj h
          subst h
          exact (And.intro rfl (And.intro rfl (And.intro rfl trivial)))
        · skip
          replace h := cF g4 h
          refine Exists.intro none ?_
          refine Exists.intro _ (Exists.intro _ (And.intro (Contract.wk (c_wide_Of (1:Int)) (And.intro rfl trivial)) (And.intro rfl ?_)))
          replace h := Option.some.inj h
          subst h
          exact (And.intro rfl (And.intro rfl (And.intro rfl trivial)))
    · skip
      replace h := cF g2 h
      refine Exists.intro none ?_
      refine Exists.intro _ (Exists.intro _ (And.intro (Contract.wk (c_wide_Of (1:Int)) (And.intro rfl trivial)) (And.intro rfl ?_)))
      replace h : wide_Pow_l5 p0 p1 (wide_Of (1:Int)).Hi (wide_Of (1:Int)).Lo = some r := h
      delta wide_Pow_l5 at h
      obtain ⟨n1, h⟩ := loopS h
      refine Exists.intro ⟨(Int × Int × Int) × Nat, fun q => [(.tmp 0, .av (.int .u64 p0)), (.tmp 1, .av (.int .i64 q.1.1)), (.tmp 4, .av (.ptr 0 0)), (.tmp 6, .av (.ptr 769 0)), (.box 0, .box [.int .u64 (0:Int), .int .u64 (0:Int)]), (.box 769, .box [.int .u64 q.1.2.1, .int .u64 q.1.2.2])], fun q => loopN (fun (s : (Int × Int × Int)) => wide_Pow_l5s p0 s.1 s.2.1 s.2.2) q.2 q.1 = some r, fun q => q.2⟩ (And.intro (Exists.intro [] (Exists.intro [] (Exists.intro ((p1, (wide_Of (1:Int)).Hi, (wide_Of (1:Int)).Lo), n1) (And.intro h (And.intro rfl (And.intro rfl (And.intro rfl (And.intro rfl (And.intro rfl (And.intro rfl (And.intro rfl trivial))))))))))) ?_)
      clear h
      refine fun q h => ?_
      obtain ⟨⟨v5_1, v5_b7x1_0, v5_b7x1_1⟩, n1⟩ := q
      obtain ⟨m1, x1, hm1, h, hl1, hr1⟩ := loopN_step h
      replace hm1 : n1 = m1 + 1 := hm1
      subst hm1
      replace h : wide_Pow_l5s p0 v5_1 v5_b7x1_0 v5_b7x1_1 = some x1 := h
      delta wide_Pow_l5s at h
      refine Exists.intro none ?_
      refine And.intro (fun g5 => ?_) (fun g5 => ?_)
      · skip
        replace h := cT g5 h
        refine Exists.intro none ?_
        obtain ⟨y10_3, e10_3, h⟩ := bS h
        refine Exists.intro _ (Exists.intro _ (And.intro (Contract.wk (c_wide_Of p0) (And.intro rfl trivial)) (And.intro rfl ?_)))
        refine Exists.intro _ (Exists.intro _ (And.intro (Contract.wk (c_wide_Mul (api_Wide.mk v5_b7x1_0 v5_b7x1_1) (wide_Of p0) y10_3 e10_3) (And.intro rfl (And.intro rfl (And.intro rfl (And.intro rfl trivial))))) (And.intro rfl ?_)))
        refine Exists.intro none ?_
        refine And.intro (fun g6 => ?_) (fun g6 => ?_)
        · skip
          replace h := cT g6 h
          refine Exists.intro none ?_
          replace h := retS h hr1
          subst h
          exact (And.intro rfl (And.intro rfl (And.intro rfl trivial)))
        · skip
          replace h := cF g6 h
          refine Exists.intro none ?_
          refine Exists.intro none ?_
          exact Exists.intro [] (Exists.intro [] (Exists.intro (((w64 (v5_1 - (1:Int))), y10_3.1.Hi, y10_3.1.Lo), m1) (And.intro (hl1 ((w64 (v5_1 - (1:Int))), y10_3.1.Hi, y10_3.1.Lo) (Option.some.inj h).symm) (And.intro (Nat.lt_succ_self m1) (And.intro rfl (And.intro rfl (And.intro rfl (And.intro rfl (And.intro rfl (And.intro rfl (And.intro rfl trivial)))))))))))
      · skip
        replace h := cF g5 h
        replace h := popS h hr1
        refine Exists.intro none ?_
        replace h := Option.some.inj h
        subst h
        exact (And.intro rfl (And.intro rfl (And.intro rfl trivial)))

theorem c_exact_Poly (p0 : (List api_Item)) (p1 : Int) (p2 : Int) (r : (api_Wide × Bool)) (h : exact_Poly p0 p1 p2 = some r) : Contract Try.prog 21 [.lst 2 false (List.map enc_api_Item p0), .int .i64 p1, .int .i64 p2] [] (.tup [.agg [.int .u64 r.1.Hi, .int .u64 r.1.Lo], .sb r.2]) [] := by
  refine contract_of_vcs tab_ok orders_ok Try.func21 Try.call21 (by kernel_rfl) 0 rfl rfl _ rfl ?_
  delta exact_Poly at h
  refine Exists.intro none ?_
  refine Exists.intro none ?_
  refine Exists.intro none ?_
  refine And.intro (fun g1 => ?_) (fun g1 => ?_)
  · skip
    refine And.intro (fun g2 => ?_) (fun g2 => ?_)
    · skip
      refine Exists.intro _ (Exists.intro _ (And.intro (Contract.wk (c_exact_tick p1) (And.intro rfl trivial)) (And.intro rfl ?_)))
      refine And.intro (fun g3 => ?_) (fun g3 => ?_)
      · skip
        replace h := cT (oR (oR g1 g2) g3) h
        refine Exists.intro none ?_
        replace h := Option.some.inj h
        subst h
        exact (And.intro rfl (And.intro rfl (And.intro rfl trivial)))
      · skip
        replace h := cF (oR (oR g1 g2) g3) h
        refine Exists.intro none ?_
        refine Exists.intro none ?_
        refine Exists.intro [.int .i64 (p0.length : Int)] (And.intro (lenS enc_api_Item p0) ?_)
        replace h : exact_Poly_l3 p0 p1 p2 (0:Int) (0:Int) (0:Int) = some r := h
        delta exact_Poly_l3 at h
        obtain ⟨n1, h⟩ := loopS h
        refine Exists.intro ⟨(Int × Int × Int) × Nat, fun q => [(.tmp 1, .av (.int .i64 p1)), (.tmp 2, .av (.int .i64 p2)), (.tmp 6, .av (.ptr 0 0)), (.tmp 8, .av (.ptr 512 0)), (.tmp 27, .av (.lst 2 false (List.map enc_api_Item p0))), (.tmp 28, .av (.int .i64 (p0.length : Int))), (.tmp 29, .av (.int .i64 q.1.1)), (.box 0, .box [.int .u64 (0:Int), .int .u64 (0:Int)]), (.box 512, .box [.int .u64 q.1.2.1, .int .u64 q.1.2.2])], fun q => loopN (fun (s : (Int × Int × Int)) => exact_Poly_l3s p0 p1 p2 s.1 s.2.1 s.2.2) q.2 q.1 = some r, fun q => q.2⟩ (And.intro (Exists.intro [] (Exists.intro [] (Exists.intro (((0:Int), (0:Int), (0:Int)), n1) (And.intro h (And.intro rfl (And.intro rfl (And.intro rfl (And.intro ff (And.intro rfl (And.intro rfl (And.intro rfl (And.intro rfl (And.intro rfl (And.intro rfl (And.intro rfl trivial))))))))))))))) ?_)
        clear h
        refine fun q h => ?_
        obtain ⟨⟨v3_29, v3_b3x0_0, v3_b3x0_1⟩, n1⟩ := q
        obtain ⟨m1, x1, hm1, h, hl1, hr1⟩ := loopN_step h
        replace hm1 : n1 = m1 + 1 := hm1
        subst hm1
        replace h : exact_Poly_l3s p0 p1 p2 v3_29 v3_b3x0_0 v3_b3x0_1 = some x1 := h
        delta exact_Poly_l3s at h
        refine Exists.intro none ?_
        refine And.intro (fun g4 => ?_) (fun g4 => ?_)
        · skip
          replace h := cT g4 h
          refine Exists.intro none ?_
          obtain ⟨x6_0, e6_0, h⟩ := bS h
          refine Exists.intro [.int .i64 x6_0.T, .int .i64 x6_0.V] (And.intro (idx_map enc_api_Item e6_0) ?_)
          refine Exists.intro none ?_
          refine Exists.intro none ?_
          refine And.intro (fun g5 => ?_) (fun g5 => ?_)
          · skip
            refine Exists.intro _ (Exists.intro _ (And.intro (Contract.wk (c_exact_tick x6_0.T) (And.intro rfl trivial)) (And.intro rfl ?_)))
            refine And.intro (fun g6 => ?_) (fun g6 => ?_)
            · skip
              refine And.intro (fun g7 => ?_) (fun g7 => ?_)
              · skip
                replace h := cT (oR (oR g5 g6) g7) h
                refine Exists.intro none ?_
                replace h := retS h hr1
                subst h
                exact (And.intro rfl (And.intro rfl (And.intro rfl trivial)))
              · skip
                replace h := cF (oR (oR g5 g6) g7) h
                refine Exists.intro none ?_
                obtain ⟨y9_7, e9_7, h⟩ := bS h
                refine Exists.intro _ (Exists.intro _ (And.intro (Contract.wk (c_wide_Pow (wu64 (w64 ((w64 (x6_0.T - p1)) + (1:Int)))) p2 y9_7 e9_7) (And.intro rfl (And.intro rfl trivial))) (And.intro rfl ?_)))
                refine Exists.intro none ?_
                obtain ⟨y10_5, e10_5, h⟩ := bS h
                refine Exists.intro _ (Exists.intro _ (And.intro (Contract.wk (c_wide_Of (wu64 x6_0.V)) (And.intro rfl trivial)) (And.intro rfl ?_)))
                refine Exists.intro _ (Exists.intro _ (And.intro (Contract.wk (c_wide_Mul y9_7.1 (wide_Of (wu64 x6_0.V)) y10_5 e10_5) (And.intro rfl (And.intro rfl (And.intro rfl (And.intro rfl trivial))))) (And.intro rfl ?_)))
                refine Exists.intro none ?_
                refine And.intro (fun g8 => ?_) (fun g8 => ?_)
                · skip
                  replace h := cT g8 h
                  refine Exists.intro none ?_
                  replace h := retS h hr1
                  subst h
                  exact (And.intro rfl (And.intro rfl (And.intro rfl trivial)))
                · skip
                  replace h := cF g8 h
                  refine Exists.intro none ?_
                  obtain ⟨y13_2, e13_2, h⟩ := bS h
                  refine Exists.intro _ (Exists.intro _ (And.intro (Contract.wk (c_wide_Add (api_Wide.mk v3_b3x0_0 v3_b3x0_1) y10_5.1 y13_2 e13_2) (And.intro rfl (And.intro rfl (And.intro rfl (And.intro rfl trivial))))) (And.intro rfl ?_)))
                  refine Exists.intro none ?_
                  refine And.intro (fun g9 => ?_) (fun g9 => ?_)
                  · skip
                    replace h := cT g9 h
                    refine Exists.intro none ?_
                    replace h := retS h hr1
                    subst h
                    exact (And.intro rfl (And.intro rfl (And.intro rfl trivial)))
                  · skip
                    replace h := cF g9 h
                    refine Exists.intro none ?_
                    exact Exists.intro [] (Exists.intro [] (Exists.intro (((w64 (v3_29 + (1:Int))), y13_2.1.Hi, y13_2.1.Lo), m1) (And.intro (hl1 ((w64 (v3_29 + (1:Int))), y13_2.1.Hi, y13_2.1.Lo) (Option.some.inj h).symm) (And.intro (Nat.lt_succ_self m1) (And.intro rfl (And.intro rfl (And.intro rfl (And.intro ff (And.intro rfl (And.intro rfl (And.intro rfl (And.intro rfl (And.intro rfl (And.intro rfl (And.intro rfl trivial)))))))))))))))
            · skip
              replace h := cT (oL (oR g5 g6)) h
              refine Exists.intro none ?_
              replace h := retS h hr1
              subst h
              exact (And.intro rfl (And.intro rfl (And.intro rfl trivial)))
          · skip
            replace h := cT (oL (oL g5)) h
            refine Exists.intro none ?_
            replace h := retS h hr1
            subst h
            exact (And.intro rfl (And.intro rfl (And.intro rfl trivial)))
        · skip
          replace h := cF g4 h
          replace h := popS h hr1
          refine Exists.intro none ?_
          replace h := Option.some.inj h
          subst h
          exact (And.intro rfl (And.intro rfl (And.intro rfl trivial)))
    · skip
      replace h := cT (oL (oR g1 g2)) h
      refine Exists.intro none ?_
      replace h := Option.some.inj h
      subst h
      exact (And.intro rfl (And.intro rfl (And.intro rfl trivial)))
  · skip
    replace h := cT (oL (oL g1)) h
    refine Exists.intro none ?_
    replace h := Option.some.inj h
    subst h
    exact (And.intro rfl (And.intro rfl (And.intro rfl trivial)))

theorem c_ref06_Tick' (p0 : Int) (r : Bool) (h : ref06_Tick p0 = r) : Contract Try.prog 75 [.int .i64 p0] [] (.sb r) [] := by
  refine contract_of_vcs tab_ok orders_ok Try.func75 Try.call75 (by kernel_rfl) 0 rfl rfl _ rfl ?_
  delta ref06_Tick at h
  refine Exists.intro none ?_
  refine Exists.intro none ?_
  refine Exists.intro none ?_
  refine And.intro (fun g1 => ?_) (fun g1 => ?_)
  · skip
    subst h
    exact (And.intro (Eq.symm (aR g1 rfl)) trivial)
  · skip
    subst h
    exact (And.intro (Eq.symm (aL g1)) trivial)
theorem c_ref06_Tick (p0 : Int) : Contract Try.prog 75 [.int .i64 p0] [] (.sb (ref06_Tick p0)) [] := c_ref06_Tick' p0 (ref06_Tick p0) rfl

theorem c_ref02_Mul (p0 : api_Wide) (p1 : api_Wide) (r : (api_Wide × Bool)) (h : ref02_Mul p0 p1 = some r) : Contract Try.prog 77 [.agg [.int .u64 p0.Hi, .int .u64 p0.Lo], .agg [.int .u64 p1.Hi, .int .u64 p1.Lo]] [] (.tup [.agg [.int .u64 r.1.Hi, .int .u64 r.1.Lo], .sb r.2]) [] := by
  refine contract_of_vcs tab_ok orders_ok Try.func77 Try.call77 (by kernel_rfl) 0 rfl rfl _ rfl ?_
  delta ref02_Mul at h
  refine Exists.intro none ?_
  refine Exists.intro none ?_
  refine Exists.intro (some (⟨Unit, fun _ => [(.tmp 2, .av (.ptr 0 0)), (.tmp 3, .av (.ptr 1 0)), (.tmp 4, .av (.ptr 2 0)), (.tmp 15, .av (.sb ((p0.Hi != (0:Int)) && (p1.Hi != (0:Int))))), (.box 0, .box [.int .u64 p0.Hi, .int .u64 p0.Lo]), (.box 1, .box [.int .u64 p1.Hi, .int .u64 p1.Lo]), (.box 2, .box [.int .u64 (0:Int), .int .u64 (0:Int)])], fun _ => True, fun _ => 0⟩, 1000000)) (And.intro ?_ (fun _ _ => ?_))
  · skip
    refine And.intro (fun g1 => ?_) (fun g1 => ?_)
    · skip
      exact Exists.intro [] (Exists.intro [] (Exists.intro () (And.intro trivial (And.intro rfl (And.intro (Eq.symm (aR g1 rfl)) (And.intro rfl (And.intro rfl (And.intro rfl (And.intro rfl (And.intro rfl (And.intro rfl trivial)))))))))))
    · skip
      exact Exists.intro [] (Exists.intro [] (Exists.intro () (And.intro trivial (And.intro rfl (And.intro (Eq.symm (aL g1)) (And.intro rfl (And.intro rfl (And.intro rfl (And.intro rfl (And.intro rfl (And.intro rfl trivial)))))))))))
  · skip
    refine And.intro (fun g2 => ?_) (fun g2 => ?_)
    · skip
      replace h := cT g2 h
      refine Exists.intro none ?_
      replace h := Option.some.inj h
      subst h
      exact (And.intro rfl (And.intro rfl (And.intro rfl trivial)))
    · skip
      replace h := cF g2 h
      refine Exists.intro none ?_
      refine Exists.intro _ (Exists.intro _ (And.intro (Contract.wk (c_ref02_Product p0.Hi p1.Lo) (And.intro rfl (And.intro rfl trivial))) (And.intro rfl ?_)))
      refine Exists.intro _ (Exists.intro _ (And.intro (Contract.wk (c_ref02_Product p0.Lo p1.Hi) (And.intro rfl (And.intro rfl trivial))) (And.intro rfl ?_)))
      refine Exists.intro none ?_
      refine Exists.intro none ?_
      refine And.intro (fun g3 => ?_) (fun g3 => ?_)
      · skip
        refine And.intro (fun g4 => ?_) (fun g4 => ?_)
        · skip
          replace h := cT (oR g3 g4) h
          refine Exists.intro none ?_
          replace h := Option.some.inj h
          subst h
          exact (And.intro rfl (And.intro rfl (And.intro rfl trivial)))
        · skip
          replace h := cF (oR g3 g4) h
          refine Exists.intro none ?_
          obtain ⟨y6_11, e6_11, h⟩ := bS h
          refine Exists.intro _ (Exists.intro _ (And.intro (Contract.wk (c_ref02_Product p0.Lo p1.Lo) (And.intro rfl (And.intro rfl trivial))) (And.intro rfl ?_)))
          refine Exists.intro _ (Exists.intro _ (And.intro (Contract.wk (c_ref02_Add (ref02_Product p0.Lo p1.Lo) (api_Wide.mk (wu64 ((ref02_Product p0.Hi p1.Lo).Lo + (ref02_Product p0.Lo p1.Hi).Lo)) (0:Int)) y6_11 e6_11) (And.intro rfl (And.intro rfl (And.intro rfl (And.intro rfl trivial))))) (And.intro rfl ?_)))
          replace h := Option.some.inj h
          subst h
          exact (And.intro rfl (And.intro rfl (And.intro rfl trivial)))
      · skip
        replace h := cT (oL g3) h
        refine Exists.intro none ?_
        replace h := Option.some.inj h
        subst h
        exact (And.intro rfl (And.intro rfl (And.intro rfl trivial)))

theorem c_ref02_Pow (p0 : Int) (p1 : Int) (r : (api_Wide × Bool)) (h : ref02_Pow p0 p1 = some r) : Contract Try.prog 76 [.int .u64 p0, .int .i64 p1] [] (.tup [.agg [.int .u64 r.1.Hi, .int .u64 r.1.Lo], .sb r.2]) [] := by
  refine contract_of_vcs tab_ok orders_ok Try.func76 Try.call76 (by kernel_rfl) 0 rfl rfl _ rfl ?_
  delta ref02_Pow at h
  refine Exists.intro none ?_
  refine Exists.intro none ?_
  refine And.intro (fun g1 => ?_) (fun g1 => ?_)
  · skip
    replace h := cT g1 h
    refine Exists.intro none ?_
    replace h := Option.some.inj h
    subst h
    exact (And.intro rfl (And.intro rfl (And.intro rfl trivial)))
  · skip
    replace h := cF g1 h
    refine Exists.intro none ?_
    refine Exists.intro (some (⟨Unit, fun _ => [(.tmp 0, .av (.int .u64 p0)), (.tmp 1, .av (.int .i64 p1)), (.tmp 4, .av (.ptr 0 0)), (.tmp 17, .av (.sb ((p1 == (0:Int)) || (p0 == (1:Int))))), (.box 0, .box [.int .u64 (0:Int), .int .u64 (0:Int)])], fun _ => True, fun _ => 0⟩, 1000000)) (And.intro ?_ (fun _ _ => ?_))
    · skip
      refine And.intro (fun g2 => ?_) (fun g2 => ?_)
      · skip
        exact Exists.intro [] (Exists.intro [] (Exists.intro () (And.intro trivial (And.intro rfl (And.intro rfl (And.intro rfl (And.intro (Eq.symm (oR g2 rfl)) (And.intro rfl (And.intro rfl trivial)))))))))
      · skip
        exact Exists.intro [] (Exists.intro [] (Exists.intro () (And.intro trivial (And.intro rfl (And.intro rfl (And.intro rfl (And.intro (Eq.symm (oL g2)) (And.intro rfl (And.intro rfl trivial)))))))))
    · skip
      refine And.intro (fun g3 => ?_) (fun g3 => ?_)
      · skip
        replace h := cT g3 h
        refine Exists.intro none ?_
        refine Exists.intro _ (Exists.intro _ (And.intro (Contract.wk (c_ref02_Of (1:Int)) (And.intro rfl trivial)) (And.intro rfl ?_)))
        replace h := Option.some.inj h
        subst h
        exact (And.intro rfl (And.intro rfl (And.intro rfl trivial)))
      · skip
        replace h := cF g3 h
        refine Exists.intro none ?_
        refine And.intro (fun g4 => ?_) (fun g4 => ?_)
        · skip
          replace h := cT g4 h
          refine Exists.intro none ?_
          replace h := Option.some.inj h
          subst h
          exact (And.intro rfl (And.intro rfl (And.intro rfl trivial)))
        · skip
          replace h := cF g4 h
          refine Exists.intro none ?_
          refine Exists.intro _ (Exists.intro _ (And.intro (Contract.wk (c_ref02_Of (1:Int)) (And.intro rfl trivial)) (And.intro rfl ?_)))
          refine Exists.intro none ?_
          replace h : ref02_Pow_l5 p0 p1 true (0:Int) (ref02_Of (1:Int)).Hi (ref02_Of (1:Int)).Lo = some r := h
          delta ref02_Pow_l5 at h
          obtain ⟨n1, h⟩ := loopS h
          refine Exists.intro ⟨(Bool × Int × Int × Int) × Nat, fun q => [(.tmp 0, .av (.int .u64 p0)), (.tmp 1, .av (.int .i64 p1)), (.tmp 4, .av (.ptr 0 0)), (.tmp 6, .av (.ptr 1000257 0)), (.tmp 7, .av (.sb q.1.1)), (.tmp 8, .av (.int .i64 q.1.2.1)), (.box 0, .box [.int .u64 (0:Int), .int .u64 (0:Int)]), (.box 1000257, .box [.int .u64 q.1.2.2.1, .int .u64 q.1.2.2.2])], fun q => loopN (fun (s : (Bool × Int × Int × Int)) => ref02_Pow_l5s p0 p1 s.1 s.2.1 s.2.2.1 s.2.2.2) q.2 q.1 = some r, fun q => q.2⟩ (And.intro (Exists.intro [] (Exists.intro [] (Exists.intro ((true, (0:Int), (ref02_Of (1:Int)).Hi, (ref02_Of (1:Int)).Lo), n1) (And.intro h (And.intro rfl (And.intro rfl (And.intro rfl (And.intro rfl (And.intro rfl (And.intro rfl (And.intro rfl (And.intro rfl (And.intro rfl trivial))))))))))))) ?_)
          clear h
          refine fun q h => ?_
          obtain ⟨⟨v5_7, v5_8, v5_b7x1_0, v5_b7x1_1⟩, n1⟩ := q
          obtain ⟨m1, x1, hm1, h, hl1, hr1⟩ := loopN_step h
          replace hm1 : n1 = m1 + 1 := hm1
          subst hm1
          replace h : ref02_Pow_l5s p0 p1 v5_7 v5_8 v5_b7x1_0 v5_b7x1_1 = some x1 := h
          delta ref02_Pow_l5s at h
          refine Exists.intro none ?_
          refine Exists.intro (some (⟨Unit, fun _ => [(.tmp 0, .av (.int .u64 p0)), (.tmp 1, .av (.int .i64 p1)), (.tmp 4, .av (.ptr 0 0)), (.tmp 6, .av (.ptr 1000257 0)), (.tmp 7, .av (.sb v5_7)), (.tmp 8, .av (.int .i64 v5_8)), (.tmp 28, .av (.sb ((decide (v5_8 < p1)) && v5_7))), (.box 0, .box [.int .u64 (0:Int), .int .u64 (0:Int)]), (.box 1000257, .box [.int .u64 v5_b7x1_0, .int .u64 v5_b7x1_1])], fun _ => True, fun _ => 0⟩, 2000000)) (And.intro ?_ (fun _ _ => ?_))
          · skip
            refine And.intro (fun g5 => ?_) (fun g5 => ?_)
            · skip
              exact Exists.intro [] (Exists.intro [] (Exists.intro () (And.intro trivial (And.intro rfl (And.intro rfl (And.intro rfl (And.intro rfl (And.intro rfl (And.intro (Eq.symm (aR g5 rfl)) (And.intro rfl (And.intro rfl (And.intro rfl (And.intro rfl trivial)))))))))))))
            · skip
              exact Exists.intro [] (Exists.intro [] (Exists.intro () (And.intro trivial (And.intro rfl (And.intro rfl (And.intro rfl (And.intro rfl (And.intro rfl (And.intro (Eq.symm (aL g5)) (And.intro rfl (And.intro rfl (And.intro rfl (And.intro rfl trivial)))))))))))))
          · skip
            refine And.intro (fun g6 => ?_) (fun g6 => ?_)
            · skip
              replace h := cT g6 h
              refine Exists.intro none ?_
              obtain ⟨y11_3, e11_3, h⟩ := bS h
              refine Exists.intro _ (Exists.intro _ (And.intro (Contract.wk (c_ref02_Of p0) (And.intro rfl trivial)) (And.intro rfl ?_)))
              refine Exists.intro _ (Exists.intro _ (And.intro (Contract.wk (c_ref02_Mul (api_Wide.mk v5_b7x1_0 v5_b7x1_1) (ref02_Of p0) y11_3 e11_3) (And.intro rfl (And.intro rfl (And.intro rfl (And.intro rfl trivial))))) (And.intro rfl ?_)))
              refine Exists.intro none ?_
              exact Exists.intro [] (Exists.intro [] (Exists.intro ((y11_3.2, (w64 (v5_8 + (1:Int))), y11_3.1.Hi, y11_3.1.Lo), m1) (And.intro (hl1 (y11_3.2, (w64 (v5_8 + (1:Int))), y11_3.1.Hi, y11_3.1.Lo) (Option.some.inj h).symm) (And.intro (Nat.lt_succ_self m1) (And.intro rfl (And.intro rfl (And.intro rfl (And.intro rfl (And.intro rfl (And.intro rfl (And.intro rfl (And.intro rfl (And.intro rfl trivial)))))))))))))
            · skip
              replace h := cF g6 h
              replace h := popS h hr1
              refine Exists.intro none ?_
              replace h := Option.some.inj h
              subst h
              exact (And.intro rfl (And.intro rfl (And.intro rfl trivial)))

theorem c_ref08_Poly (p0 : (List api_Item)) (p1 : Int) (p2 : Int) (r : (api_Wide × Bool)) (h : ref08_Poly p0 p1 p2 = some r) : Contract Try.prog 22 [.lst 2 false (List.map enc_api_Item p0), .int .i64 p1, .int .i64 p2] [] (.tup [.agg [.int .u64 r.1.Hi, .int .u64 r.1.Lo], .sb r.2]) [] := by
  refine contract_of_vcs tab_ok orders_ok Try.func22 Try.call22 (by kernel_rfl) 0 rfl rfl _ rfl ?_
  delta ref08_Poly at h
  refine Exists.intro none ?_
  refine Exists.intro none ?_
  refine Exists.intro none ?_
  refine And.intro (fun g1 => ?_) (fun g1 => ?_)
  · skip
    refine And.intro (fun g2 => ?_) (fun g2 => ?_)
    · skip
      refine Exists.intro _ (Exists.intro _ (And.intro (Contract.wk (c_ref06_Tick p1) (And.intro rfl trivial)) (And.intro rfl ?_)))
      refine And.intro (fun g3 => ?_) (fun g3 => ?_)
      · skip
        replace h := cT (oR (oR g1 g2) g3) h
        refine Exists.intro none ?_
        replace h := Option.some.inj h
        subst h
        exact (And.intro rfl (And.intro rfl (And.intro rfl trivial)))
      · skip
        replace h := cF (oR (oR g1 g2) g3) h
        refine Exists.intro none ?_
        refine Exists.intro none ?_
        refine Exists.intro [.int .i64 (p0.length : Int)] (And.intro (lenS enc_api_Item p0) ?_)
        replace h : ref08_Poly_l3 p0 p1 p2 (0:Int) (0:Int) (0:Int) = some r := h
        delta ref08_Poly_l3 at h
        obtain ⟨n1, h⟩ := loopS h
        refine Exists.intro ⟨(Int × Int × Int) × Nat, fun q => [(.tmp 1, .av (.int .i64 p1)), (.tmp 2, .av (.int .i64 p2)), (.tmp 6, .av (.ptr 0 0)), (.tmp 8, .av (.ptr 512 0)), (.tmp 27, .av (.lst 2 false (List.map enc_api_Item p0))), (.tmp 28, .av (.int .i64 (p0.length : Int))), (.tmp 29, .av (.int .i64 q.1.1)), (.box 0, .box [.int .u64 (0:Int), .int .u64 (0:Int)]), (.box 512, .box [.int .u64 q.1.2.1, .int .u64 q.1.2.2])], fun q => loopN (fun (s : (Int × Int × Int)) => ref08_Poly_l3s p0 p1 p2 s.1 s.2.1 s.2.2) q.2 q.1 = some r, fun q => q.2⟩ (And.intro (Exists.intro [] (Exists.intro [] (Exists.intro (((0:Int), (0:Int), (0:Int)), n1) (And.intro h (And.intro rfl (And.intro rfl (And.intro rfl (And.intro ff (And.intro rfl (And.intro rfl (And.intro rfl (And.intro rfl (And.intro rfl (And.intro rfl (And.intro rfl trivial))))))))))))))) ?_)
        clear h
        refine fun q h => ?_
        obtain ⟨⟨v3_29, v3_b3x0_0, v3_b3x0_1⟩, n1⟩ := q
        obtain ⟨m1, x1, hm1, h, hl1, hr1⟩ := loopN_step h
        replace hm1 : n1 = m1 + 1 := hm1
        subst hm1
        replace h : ref08_Poly_l3s p0 p1 p2 v3_29 v3_b3x0_0 v3_b3x0_1 = some x1 := h
        delta ref08_Poly_l3s at h
        refine Exists.intro none ?_
        refine And.intro (fun g4 => ?_) (fun g4 => ?_)
        · skip
          replace h := cT g4 h
          refine Exists.intro none ?_
          obtain ⟨x6_0, e6_0, h⟩ := bS h
          refine Exists.intro [.int .i64 x6_0.T, .int .i64 x6_0.V] (And.intro (idx_map enc_api_Item e6_0) ?_)
          refine Exists.intro none ?_
          refine Exists.intro none ?_
          refine And.intro (fun g5 => ?_) (fun g5 => ?_)
          · skip
            refine Exists.intro _ (Exists.intro _ (And.intro (Contract.wk (c_ref06_Tick x6_0.T) (And.intro rfl trivial)) (And.intro rfl ?_)))
            refine And.intro (fun g6 => ?_) (fun g6 => ?_)
            · skip
              refine And.intro (fun g7 => ?_) (fun g7 => ?_)
              · skip
                replace h := cT (oR (oR g5 g6) g7) h
                refine Exists.intro none ?_
                replace h := retS h hr1
                subst h
                exact (And.intro rfl (And.intro rfl (And.intro rfl trivial)))
              · skip
                replace h := cF (oR (oR g5 g6) g7) h
                refine Exists.intro none ?_
                obtain ⟨y9_7, e9_7, h⟩ := bS h
                refine Exists.intro _ (Exists.intro _ (And.intro (Contract.wk (c_ref02_Pow (wu64 (w64 ((w64 (x6_0.T - p1)) + (1:Int)))) p2 y9_7 e9_7) (And.intro rfl (And.intro rfl trivial))) (And.intro rfl ?_)))
                refine Exists.intro none ?_
                obtain ⟨y10_5, e10_5, h⟩ := bS h
                refine Exists.intro _ (Exists.intro _ (And.intro (Contract.wk (c_ref02_Of (wu64 x6_0.V)) (And.intro rfl trivial)) (And.intro rfl ?_)))
                refine Exists.intro _ (Exists.intro _ (And.intro (Contract.wk (c_ref02_Mul (ref02_Of (wu64 x6_0.V)) y9_7.1 y10_5 e10_5) (And.intro rfl (And.intro rfl (And.intro rfl (And.intro rfl trivial))))) (And.intro rfl ?_)))
                refine Exists.intro none ?_
                refine And.intro (fun g8 => ?_) (fun g8 => ?_)
                · skip
                  replace h := cT g8 h
                  refine Exists.intro none ?_
                  replace h := retS h hr1
                  subst h
                  exact (And.intro rfl (And.intro rfl (And.intro rfl trivial)))
                · skip
                  replace h := cF g8 h
                  refine Exists.intro none ?_
                  obtain ⟨y13_2, e13_2, h⟩ := bS h
                  refine Exists.intro _ (Exists.intro _ (And.intro (Contract.wk (c_ref02_Add (api_Wide.mk v3_b3x0_0 v3_b3x0_1) y10_5.1 y13_2 e13_2) (And.intro rfl (And.intro rfl (And.intro rfl (And.intro rfl trivial))))) (And.intro rfl ?_)))
                  refine Exists.intro none ?_
                  refine And.intro (fun g9 => ?_) (fun g9 => ?_)
                  · skip
                    replace h := cT g9 h
                    refine Exists.intro none ?_
                    replace h := retS h hr1
                    subst h
                    exact (And.intro rfl (And.intro rfl (And.intro rfl trivial)))
                  · skip
                    replace h := cF g9 h
                    refine Exists.intro none ?_
                    exact Exists.intro [] (Exists.intro [] (Exists.intro (((w64 (v3_29 + (1:Int))), y13_2.1.Hi, y13_2.1.Lo), m1) (And.intro (hl1 ((w64 (v3_29 + (1:Int))), y13_2.1.Hi, y13_2.1.Lo) (Option.some.inj h).symm) (And.intro (Nat.lt_succ_self m1) (And.intro rfl (And.intro rfl (And.intro rfl (And.intro ff (And.intro rfl (And.intro rfl (And.intro rfl (And.intro rfl (And.intro rfl (And.intro rfl (And.intro rfl trivial)))))))))))))))
            · skip
              replace h := cT (oL (oR g5 g6)) h
              refine Exists.intro none ?_
              replace h := retS h hr1
              subst h
              exact (And.intro rfl (And.intro rfl (And.intro rfl trivial)))
          · skip
            replace h := cT (oL (oL g5)) h
            refine Exists.intro none ?_
            replace h := retS h hr1
            subst h
            exact (And.intro rfl (And.intro rfl (And.intro rfl trivial)))
        · skip
          replace h := cF g4 h
          replace h := popS h hr1
          refine Exists.intro none ?_
          replace h := Option.some.inj h
          subst h
          exact (And.intro rfl (And.intro rfl (And.intro rfl trivial)))
    · skip
      replace h := cT (oL (oR g1 g2)) h
      refine Exists.intro none ?_
      replace h := Option.some.inj h
      subst h
      exact (And.intro rfl (And.intro rfl (And.intro rfl trivial)))
  · skip
    replace h := cT (oL (oL g1)) h
    refine Exists.intro none ?_
    replace h := Option.some.inj h
    subst h
    exact (And.intro rfl (And.intro rfl (And.intro rfl trivial)))

theorem c_law08_ExactPolys (p0 : (List api_Item)) (p1 : Int) (p2 : Int) (r : Bool) (h : law08_ExactPolys p0 p1 p2 = some r) : Contract Try.prog 4 [.lst 2 false (List.map enc_api_Item p0), .int .i64 p1, .int .i64 p2] [] (.sb r) [] := by
  refine contract_of_vcs tab_ok orders_ok Try.func4 Try.call4 (by kernel_rfl) 0 rfl rfl _ rfl ?_
  delta law08_ExactPolys at h
  refine Exists.intro none ?_
  refine Exists.intro none ?_
  refine Exists.intro [.int .i64 (p0.length : Int)] (And.intro (lenS enc_api_Item p0) ?_)
  refine And.intro (fun g1 => ?_) (fun g1 => ?_)
  · skip
    replace h := cT g1 h
    refine Exists.intro none ?_
    obtain ⟨y2_0, e2_0, h⟩ := bS h
    refine Exists.intro _ (Exists.intro _ (And.intro (Contract.wk (c_law08_awake y2_0 e2_0) trivial) (And.intro rfl ?_)))
    replace h := Option.some.inj h
    subst h
    exact (And.intro rfl trivial)
  · skip
    replace h := cF g1 h
    refine Exists.intro none ?_
    obtain ⟨y3_3, e3_3, h⟩ := bS h
    refine Exists.intro _ (Exists.intro _ (And.intro (Contract.wk (c_exact_Poly p0 p1 p2 y3_3 e3_3) (And.intro ff (And.intro rfl (And.intro rfl (And.intro rfl trivial))))) (And.intro rfl ?_)))
    refine Exists.intro none ?_
    obtain ⟨y4_3, e4_3, h⟩ := bS h
    refine Exists.intro _ (Exists.intro _ (And.intro (Contract.wk (c_ref08_Poly p0 p1 p2 y4_3 e4_3) (And.intro ff (And.intro rfl (And.intro rfl (And.intro rfl trivial))))) (And.intro rfl ?_)))
    refine Exists.intro none ?_
    obtain ⟨y5_9, e5_9, h⟩ := bS h
    refine Exists.intro none ?_
    refine And.intro (fun g2 => ?_) (fun g2 => ?_)
    · skip
      refine And.intro (fun g3 => ?_) (fun g3 => ?_)
      · skip
        refine Exists.intro _ (Exists.intro _ (And.intro (Contract.wk (c_law08_awake y5_9 (gdT (aR g2 g3) e5_9)) trivial) (And.intro rfl ?_)))
        replace h := Option.some.inj h
        subst h
        exact (And.intro (Eq.symm (aR (aR g2 g3) rfl)) trivial)
      · skip
        replace h := Option.some.inj h
        subst h
        exact (And.intro (Eq.symm (aL (aR g2 g3))) trivial)
    · skip
      replace h := Option.some.inj h
      subst h
      exact (And.intro (Eq.symm (aL (aL g2))) trivial)

end Go.Proofs.Ytbolhhoklijnpaa
