/- The contracts: each function of the program does what its function on plain data says. Made by program. -/
import Derived.Test.YtbolhhoklijnpaaTab
import Derived.Test.YtbolhhoklijnpaaWin
set_option linter.unusedVariables false
set_option linter.unusedSimpArgs false
set_option linter.unnecessarySimpa false
set_option maxHeartbeats 4000000
namespace Go.Proofs.Ytbolhhoklijnpaa
open Go.Vc Go.Dec Go.Win

theorem c_num_size' (p0 : Int) (r : Int) (h : num_size p0 = r) : Contract Try.prog 120 [.int .i64 p0] [] (.int .u64 r) [] := by
  refine contract_of_vcs tab_ok orders_ok Try.func120 Try.call120 (by kernel_rfl) 0 rfl rfl _ rfl ?_
  delta num_size at h
  refine Exists.intro none ?_
  refine Exists.intro none ?_
  refine And.intro (fun g1 => ?_) (fun g1 => ?_)
  · skip
    replace h := cT g1 h
    refine Exists.intro none ?_
    subst h
    exact (And.intro rfl trivial)
  · skip
    replace h := cF g1 h
    refine Exists.intro none ?_
    subst h
    exact (And.intro rfl trivial)
theorem c_num_size (p0 : Int) : Contract Try.prog 120 [.int .i64 p0] [] (.int .u64 (num_size p0)) [] := c_num_size' p0 (num_size p0) rfl

theorem c_math_bits_Mul64' (p0 : Int) (p1 : Int) (r : (Int × Int)) (h : math_bits_Mul64 p0 p1 = r) : Contract Try.prog 119 [.int .u64 p0, .int .u64 p1] [] (.tup [.int .u64 r.1, .int .u64 r.2]) [] := by
  refine contract_of_vcs tab_ok orders_ok Try.func119 Try.call119 (by kernel_rfl) 0 rfl rfl _ rfl ?_
  delta math_bits_Mul64 at h
  refine Exists.intro none ?_
  refine Exists.intro none ?_
  refine Exists.intro none ?_
  refine And.intro (by decide) ?_
  refine Exists.intro none ?_
  refine Exists.intro none ?_
  refine And.intro (by decide) ?_
  refine Exists.intro none ?_
  refine Exists.intro none ?_
  refine And.intro (by decide) ?_
  refine Exists.intro none ?_
  refine Exists.intro none ?_
  refine And.intro (by decide) ?_
  refine Exists.intro none ?_
  refine Exists.intro none ?_
  refine And.intro (by decide) ?_
  refine Exists.intro none ?_
  subst h
  exact (And.intro rfl (And.intro rfl trivial))
theorem c_math_bits_Mul64 (p0 : Int) (p1 : Int) : Contract Try.prog 119 [.int .u64 p0, .int .u64 p1] [] (.tup [.int .u64 (math_bits_Mul64 p0 p1).1, .int .u64 (math_bits_Mul64 p0 p1).2]) [] := c_math_bits_Mul64' p0 p1 (math_bits_Mul64 p0 p1) rfl

theorem c_num_Mul' (p0 : Int) (p1 : Int) (r : (Int × Bool)) (h : num_Mul p0 p1 = r) : Contract Try.prog 67 [.int .i64 p0, .int .i64 p1] [] (.tup [.int .i64 r.1, .sb r.2]) [] := by
  refine contract_of_vcs tab_ok orders_ok Try.func67 Try.call67 (by kernel_rfl) 0 rfl rfl _ rfl ?_
  delta num_Mul at h
  refine Exists.intro none ?_
  refine Exists.intro none ?_
  refine Exists.intro _ (Exists.intro _ (And.intro (Contract.wk (c_num_size p0) (And.intro rfl trivial)) (And.intro rfl ?_)))
  refine Exists.intro _ (Exists.intro _ (And.intro (Contract.wk (c_num_size p1) (And.intro rfl trivial)) (And.intro rfl ?_)))
  refine Exists.intro _ (Exists.intro _ (And.intro (Contract.wk (c_math_bits_Mul64 (num_size p0) (num_size p1)) (And.intro rfl (And.intro rfl trivial))) (And.intro rfl ?_)))
  refine Exists.intro none ?_
  refine Exists.intro none ?_
  refine Exists.intro none ?_
  refine Exists.intro (some (⟨Int, fun j1_9 => [(.tmp 6, .av (.int .u64 (math_bits_Mul64 (num_size p0) (num_size p1)).1)), (.tmp 7, .av (.int .u64 (math_bits_Mul64 (num_size p0) (num_size p1)).2)), (.tmp 8, .av (.sb (!((decide (p0 < (0:Int))) == (decide (p1 < (0:Int))))))), (.tmp 9, .av (.int .u64 j1_9))], fun j1_9 => num_Mul_j1 p0 p1 (math_bits_Mul64 (num_size p0) (num_size p1)) j1_9 = r, fun _ => 0⟩, 1000000)) (And.intro ?_ ?_)
  · skip
    refine And.intro (fun g1 => ?_) (fun g1 => ?_)
    · skip
      replace h := cT g1 h
      refine Exists.intro none ?_
      exact Exists.intro [] (Exists.intro [] (Exists.intro (wu64 ((9223372036854775807:Int) + (1:Int))) (And.intro h (And.intro rfl (And.intro rfl (And.intro rfl (And.intro rfl (And.intro rfl trivial))))))))
    · skip
      replace h := cF g1 h
      exact Exists.intro [] (Exists.intro [] (Exists.intro (9223372036854775807:Int) (And.intro h (And.intro rfl (And.intro rfl (And.intro rfl (And.intro rfl (And.intro rfl trivial))))))))
  · skip
    clear h
    refine fun j1_9 h => ?_
    replace h : num_Mul_j1 p0 p1 (math_bits_Mul64 (num_size p0) (num_size p1)) j1_9 = r := h
    delta num_Mul_j1 at h
    refine Exists.intro none ?_
    refine Exists.intro none ?_
    refine And.intro (fun g2 => ?_) (fun g2 => ?_)
    · skip
      refine And.intro (fun g3 => ?_) (fun g3 => ?_)
      · skip
        replace h := cT (oR g2 g3) h
        refine Exists.intro none ?_
        subst h
        exact (And.intro rfl (And.intro rfl trivial))
      · skip
        replace h := cF (oR g2 g3) h
        refine Exists.intro none ?_
        refine And.intro (fun g4 => ?_) (fun g4 => ?_)
        · skip
          replace h := cT g4 h
          refine Exists.intro none ?_
          subst h
          exact (And.intro rfl (And.intro rfl trivial))
        · skip
          replace h := cF g4 h
          refine Exists.intro none ?_
          subst h
          exact (And.intro rfl (And.intro rfl trivial))
    · skip
      replace h := cT (oL g2) h
      refine Exists.intro none ?_
      subst h
      exact (And.intro rfl (And.intro rfl trivial))
theorem c_num_Mul (p0 : Int) (p1 : Int) : Contract Try.prog 67 [.int .i64 p0, .int .i64 p1] [] (.tup [.int .i64 (num_Mul p0 p1).1, .sb (num_Mul p0 p1).2]) [] := c_num_Mul' p0 p1 (num_Mul p0 p1) rfl

theorem c_num_Add' (p0 : Int) (p1 : Int) (r : (Int × Bool)) (h : num_Add p0 p1 = r) : Contract Try.prog 68 [.int .i64 p0, .int .i64 p1] [] (.tup [.int .i64 r.1, .sb r.2]) [] := by
  refine contract_of_vcs tab_ok orders_ok Try.func68 Try.call68 (by kernel_rfl) 0 rfl rfl _ rfl ?_
  delta num_Add at h
  refine Exists.intro none ?_
  refine Exists.intro none ?_
  refine Exists.intro none ?_
  refine Exists.intro (some (⟨Unit, fun _ => [(.tmp 6, .av (.int .i64 (w64 (p0 + p1)))), (.tmp 21, .av (.sb (((decide (p0 ≥ (0:Int))) == (decide (p1 ≥ (0:Int)))) && (!((decide ((w64 (p0 + p1)) ≥ (0:Int))) == (decide (p0 ≥ (0:Int))))))))], fun _ => True, fun _ => 0⟩, 1000000)) (And.intro ?_ (fun _ _ => ?_))
  · skip
    refine And.intro (fun g1 => ?_) (fun g1 => ?_)
    · skip
      exact Exists.intro [] (Exists.intro [] (Exists.intro () (And.intro trivial (And.intro rfl (And.intro rfl (And.intro (Eq.symm (aR g1 rfl)) trivial))))))
    · skip
      exact Exists.intro [] (Exists.intro [] (Exists.intro () (And.intro trivial (And.intro rfl (And.intro rfl (And.intro (Eq.symm (aL g1)) trivial))))))
  · skip
    refine And.intro (fun g2 => ?_) (fun g2 => ?_)
    · skip
      replace h := cT g2 h
      refine Exists.intro none ?_
      subst h
      exact (And.intro rfl (And.intro rfl trivial))
    · skip
      replace h := cF g2 h
      refine Exists.intro none ?_
      subst h
      exact (And.intro rfl (And.intro rfl trivial))
theorem c_num_Add (p0 : Int) (p1 : Int) : Contract Try.prog 68 [.int .i64 p0, .int .i64 p1] [] (.tup [.int .i64 (num_Add p0 p1).1, .sb (num_Add p0 p1).2]) [] := c_num_Add' p0 p1 (num_Add p0 p1) rfl

theorem c_exact_Squares (p0 : (List api_Item)) (r : (Int × Bool)) (h : exact_Squares p0 = some r) : Contract Try.prog 18 [.lst 2 false (List.map enc_api_Item p0)] [] (.tup [.int .i64 r.1, .sb r.2]) [] := by
  refine contract_of_vcs tab_ok orders_ok Try.func18 Try.call18 (by kernel_rfl) 0 rfl rfl _ rfl ?_
  delta exact_Squares at h
  refine Exists.intro none ?_
  refine Exists.intro none ?_
  refine Exists.intro none ?_
  refine Exists.intro [.int .i64 (p0.length : Int)] (And.intro (lenS enc_api_Item p0) ?_)
  replace h : exact_Squares_l2 p0 (0:Int) (0:Int) = some r := h
  delta exact_Squares_l2 at h
  obtain ⟨n1, h⟩ := loopS h
  refine Exists.intro ⟨(Int × Int) × Nat, fun q => [(.tmp 4, .av (.int .i64 q.1.1)), (.tmp 9, .av (.lst 2 false (List.map enc_api_Item p0))), (.tmp 10, .av (.int .i64 (p0.length : Int))), (.tmp 11, .av (.int .i64 q.1.2))], fun q => loopN (fun (s : (Int × Int)) => exact_Squares_l2s p0 s.1 s.2) q.2 q.1 = some r, fun q => q.2⟩ (And.intro (Exists.intro [] (Exists.intro [] (Exists.intro (((0:Int), (0:Int)), n1) (And.intro h (And.intro rfl (And.intro rfl (And.intro ff (And.intro rfl (And.intro rfl (And.intro rfl trivial)))))))))) ?_)
  clear h
  refine fun q h => ?_
  obtain ⟨⟨v2_4, v2_11⟩, n1⟩ := q
  obtain ⟨m1, x1, hm1, h, hl1, hr1⟩ := loopN_step h
  replace hm1 : n1 = m1 + 1 := hm1
  subst hm1
  replace h : exact_Squares_l2s p0 v2_4 v2_11 = some x1 := h
  delta exact_Squares_l2s at h
  refine Exists.intro none ?_
  refine And.intro (fun g1 => ?_) (fun g1 => ?_)
  · skip
    replace h := cT g1 h
    refine Exists.intro none ?_
    obtain ⟨x4_0, e4_0, h⟩ := bS h
    refine Exists.intro [.int .i64 x4_0.T, .int .i64 x4_0.V] (And.intro (idx_map enc_api_Item e4_0) ?_)
    refine Exists.intro none ?_
    refine Exists.intro _ (Exists.intro _ (And.intro (Contract.wk (c_num_Mul x4_0.V x4_0.V) (And.intro rfl (And.intro rfl trivial))) (And.intro rfl ?_)))
    refine Exists.intro none ?_
    refine And.intro (fun g2 => ?_) (fun g2 => ?_)
    · skip
      replace h := cT g2 h
      refine Exists.intro none ?_
      replace h := retS h hr1
      subst h
      exact (And.intro rfl (And.intro rfl trivial))
    · skip
      replace h := cF g2 h
      refine Exists.intro none ?_
      refine Exists.intro _ (Exists.intro _ (And.intro (Contract.wk (c_num_Add v2_4 (num_Mul x4_0.V x4_0.V).1) (And.intro rfl (And.intro rfl trivial))) (And.intro rfl ?_)))
      refine Exists.intro none ?_
      refine And.intro (fun g3 => ?_) (fun g3 => ?_)
      · skip
        replace h := cT g3 h
        refine Exists.intro none ?_
        replace h := retS h hr1
        subst h
        exact (And.intro rfl (And.intro rfl trivial))
      · skip
        replace h := cF g3 h
        refine Exists.intro none ?_
        exact Exists.intro [] (Exists.intro [] (Exists.intro (((num_Add v2_4 (num_Mul x4_0.V x4_0.V).1).1, (w64 (v2_11 + (1:Int)))), m1) (And.intro (hl1 ((num_Add v2_4 (num_Mul x4_0.V x4_0.V).1).1, (w64 (v2_11 + (1:Int)))) (Option.some.inj h).symm) (And.intro (Nat.lt_succ_self m1) (And.intro rfl (And.intro rfl (And.intro ff (And.intro rfl (And.intro rfl (And.intro rfl trivial))))))))))
  · skip
    replace h := cF g1 h
    replace h := popS h hr1
    refine Exists.intro none ?_
    replace h := Option.some.inj h
    subst h
    exact (And.intro rfl (And.intro rfl trivial))

theorem c_exact_Count' (p0 : (List api_Item)) (r : Int) (h : exact_Count p0 = r) : Contract Try.prog 20 [.lst 2 false (List.map enc_api_Item p0)] [] (.int .i64 r) [] := by
  refine contract_of_vcs tab_ok orders_ok Try.func20 Try.call20 (by kernel_rfl) 0 rfl rfl _ rfl ?_
  delta exact_Count at h
  refine Exists.intro none ?_
  refine Exists.intro none ?_
  refine Exists.intro [.int .i64 (p0.length : Int)] (And.intro (lenS enc_api_Item p0) ?_)
  subst h
  exact (And.intro rfl trivial)
theorem c_exact_Count (p0 : (List api_Item)) : Contract Try.prog 20 [.lst 2 false (List.map enc_api_Item p0)] [] (.int .i64 (exact_Count p0)) [] := c_exact_Count' p0 (exact_Count p0) rfl

theorem c_law08_awake (r : Bool) (h : law08_awake = some r) : Contract Try.prog 15 [] [] (.sb r) [] := by
  refine contract_of_vcs tab_ok orders_ok Try.func15 Try.call15 (by kernel_rfl) 0 rfl rfl _ rfl ?_
  delta law08_awake at h
  refine Exists.intro none ?_
  refine Exists.intro none ?_
  refine Exists.intro none ?_
  obtain ⟨y2_1, e2_1, h⟩ := bS h
  refine Exists.intro _ (Exists.intro _ (And.intro (Contract.wk (c_exact_Squares [(api_Item.mk (0:Int) (2:Int)), (api_Item.mk (1:Int) (4:Int)), (api_Item.mk (1:Int) (9:Int))] y2_1 e2_1) (And.intro ff (And.intro (by first | rfl | (simp only [List.map_append, List.map_cons, List.map_nil, List.map_take, List.map_drop, List.map_set, List.map_replicate]; done) | (simp only [List.map_append, List.map_cons, List.map_nil, List.map_take, List.map_drop, List.map_set, List.map_replicate]; rfl) | (simp only [List.map_append, List.map_cons, List.map_nil, List.map_take, List.map_drop, List.map_set, List.map_replicate, eL, enc_api_Command, enc_tape_Tape, enc_ref27_Cursor, enc_api_Chain, enc_api_Sample, enc_chain_source, enc_made_Tape, enc_api_Answer, enc_api_Reply]; done) | (simp only [List.map_append, List.map_cons, List.map_nil, List.map_take, List.map_drop, List.map_set, List.map_replicate, eL, enc_api_Command, enc_tape_Tape, enc_ref27_Cursor, enc_api_Chain, enc_api_Sample, enc_chain_source, enc_made_Tape, enc_api_Answer, enc_api_Reply]; rfl)) trivial))) (And.intro rfl ?_)))
  refine Exists.intro none ?_
  refine Exists.intro none ?_
  refine And.intro (fun g1 => ?_) (fun g1 => ?_)
  · skip
    refine And.intro (fun g2 => ?_) (fun g2 => ?_)
    · skip
      refine Exists.intro _ (Exists.intro _ (And.intro (Contract.wk (c_exact_Count [(api_Item.mk (0:Int) (2:Int)), (api_Item.mk (1:Int) (4:Int)), (api_Item.mk (1:Int) (9:Int))]) (And.intro ff (And.intro (by first | rfl | (simp only [List.map_append, List.map_cons, List.map_nil, List.map_take, List.map_drop, List.map_set, List.map_replicate]; done) | (simp only [List.map_append, List.map_cons, List.map_nil, List.map_take, List.map_drop, List.map_set, List.map_replicate]; rfl) | (simp only [List.map_append, List.map_cons, List.map_nil, List.map_take, List.map_drop, List.map_set, List.map_replicate, eL, enc_api_Command, enc_tape_Tape, enc_ref27_Cursor, enc_api_Chain, enc_api_Sample, enc_chain_source, enc_made_Tape, enc_api_Answer, enc_api_Reply]; done) | (simp only [List.map_append, List.map_cons, List.map_nil, List.map_take, List.map_drop, List.map_set, List.map_replicate, eL, enc_api_Command, enc_tape_Tape, enc_ref27_Cursor, enc_api_Chain, enc_api_Sample, enc_chain_source, enc_made_Tape, enc_api_Answer, enc_api_Reply]; rfl)) trivial))) (And.intro rfl ?_)))
      replace h := Option.some.inj h
      subst h
      exact (And.intro (Eq.symm (aR (aR g1 g2) rfl)) trivial)
    · skip
      replace h := Option.some.inj h
      subst h
      exact (And.intro (Eq.symm (aL (aR g1 g2))) trivial)
  · skip
    replace h := Option.some.inj h
    subst h
    exact (And.intro (Eq.symm (aL (aL g1))) trivial)

theorem c_exact_size' (p0 : Int) (r : Int) (h : exact_size p0 = r) : Contract Try.prog 109 [.int .i64 p0] [] (.int .u64 r) [] := by
  refine contract_of_vcs tab_ok orders_ok Try.func109 Try.call109 (by kernel_rfl) 0 rfl rfl _ rfl ?_
  delta exact_size at h
  refine Exists.intro none ?_
  refine Exists.intro none ?_
  refine And.intro (fun g1 => ?_) (fun g1 => ?_)
  · skip
    replace h := cT g1 h
    refine Exists.intro none ?_
    subst h
    exact (And.intro rfl trivial)
  · skip
    replace h := cF g1 h
    refine Exists.intro none ?_
    subst h
    exact (And.intro rfl trivial)
theorem c_exact_size (p0 : Int) : Contract Try.prog 109 [.int .i64 p0] [] (.int .u64 (exact_size p0)) [] := c_exact_size' p0 (exact_size p0) rfl

theorem c_wide_Of' (p0 : Int) (r : api_Wide) (h : wide_Of p0 = r) : Contract Try.prog 73 [.int .u64 p0] [] (.agg [.int .u64 r.Hi, .int .u64 r.Lo]) [] := by
  refine contract_of_vcs tab_ok orders_ok Try.func73 Try.call73 (by kernel_rfl) 0 rfl rfl _ rfl ?_
  delta wide_Of at h
  refine Exists.intro none ?_
  refine Exists.intro none ?_
  subst h
  exact (And.intro rfl (And.intro rfl trivial))
theorem c_wide_Of (p0 : Int) : Contract Try.prog 73 [.int .u64 p0] [] (.agg [.int .u64 (wide_Of p0).Hi, .int .u64 (wide_Of p0).Lo]) [] := c_wide_Of' p0 (wide_Of p0) rfl

theorem c_math_bits_Add64 (p0 p1 p2 : Int) (r : (Int × Int)) (h : math_bits_Add64 p0 p1 p2 = some r) : Contract Try.prog 123 [.int .u64 p0, .int .u64 p1, .int .u64 p2] [] (.tup [.int .u64 r.1, .int .u64 r.2]) [] :=
  ext_Add64 Try.func123 (by kernel_rfl) (by kernel_rfl) (by kernel_rfl) (by kernel_rfl) p0 p1 p2 r h

theorem c_wide_Add (p0 : api_Wide) (p1 : api_Wide) (r : (api_Wide × Bool)) (h : wide_Add p0 p1 = some r) : Contract Try.prog 74 [.agg [.int .u64 p0.Hi, .int .u64 p0.Lo], .agg [.int .u64 p1.Hi, .int .u64 p1.Lo]] [] (.tup [.agg [.int .u64 r.1.Hi, .int .u64 r.1.Lo], .sb r.2]) [] := by
  refine contract_of_vcs tab_ok orders_ok Try.func74 Try.call74 (by kernel_rfl) 0 rfl rfl _ rfl ?_
  delta wide_Add at h
  refine Exists.intro none ?_
  refine Exists.intro none ?_
  obtain ⟨y1_4, e1_4, h⟩ := bS h
  refine Exists.intro _ (Exists.intro _ (And.intro (Contract.wk (c_math_bits_Add64 p0.Lo p1.Lo (0:Int) y1_4 e1_4) (And.intro rfl (And.intro rfl (And.intro rfl trivial)))) (And.intro rfl ?_)))
  refine Exists.intro none ?_
  obtain ⟨y2_5, e2_5, h⟩ := bS h
  refine Exists.intro _ (Exists.intro _ (And.intro (Contract.wk (c_math_bits_Add64 p0.Hi p1.Hi y1_4.2 y2_5 e2_5) (And.intro rfl (And.intro rfl (And.intro rfl trivial)))) (And.intro rfl ?_)))
  refine Exists.intro none ?_
  refine And.intro (fun g1 => ?_) (fun g1 => ?_)
  · skip
    replace h := cT g1 h
    refine Exists.intro none ?_
    replace h := Option.some.inj h
    subst h
    exact (And.intro rfl (And.intro rfl (And.intro rfl trivial)))
  · skip
    replace h := cF g1 h
    refine Exists.intro none ?_
    replace h := Option.some.inj h
    subst h
    exact (And.intro rfl (And.intro rfl (And.intro rfl trivial)))

theorem c_wide_Compare' (p0 : api_Wide) (p1 : api_Wide) (r : Int) (h : wide_Compare p0 p1 = r) : Contract Try.prog 116 [.agg [.int .u64 p0.Hi, .int .u64 p0.Lo], .agg [.int .u64 p1.Hi, .int .u64 p1.Lo]] [] (.int .i64 r) [] := by
  refine contract_of_vcs tab_ok orders_ok Try.func116 Try.call116 (by kernel_rfl) 0 rfl rfl _ rfl ?_
  delta wide_Compare at h
  refine Exists.intro none ?_
  refine Exists.intro none ?_
  refine Exists.intro (some (⟨Unit, fun _ => [(.tmp 2, .av (.ptr 0 0)), (.tmp 3, .av (.ptr 1 0)), (.tmp 5, .av (.sb ((decide (p0.Hi < p1.Hi)) || ((p0.Hi == p1.Hi) && (decide (p0.Lo < p1.Lo)))))), (.box 0, .box [.int .u64 p0.Hi, .int .u64 p0.Lo]), (.box 1, .box [.int .u64 p1.Hi, .int .u64 p1.Lo])], fun _ => True, fun _ => 0⟩, 1000000)) (And.intro ?_ (fun _ _ => ?_))
  · skip
    refine And.intro (fun g1 => ?_) (fun g1 => ?_)
    · skip
      refine And.intro (fun g2 => ?_) (fun g2 => ?_)
      · skip
        exact Exists.intro [] (Exists.intro [] (Exists.intro () (And.intro trivial (And.intro rfl (And.intro (Eq.symm (oR g1 (aR g2 rfl))) (And.intro rfl (And.intro rfl (And.intro rfl (And.intro rfl trivial)))))))))
      · skip
        exact Exists.intro [] (Exists.intro [] (Exists.intro () (And.intro trivial (And.intro rfl (And.intro (Eq.symm (oR g1 (aL g2))) (And.intro rfl (And.intro rfl (And.intro rfl (And.intro rfl trivial)))))))))
    · skip
      exact Exists.intro [] (Exists.intro [] (Exists.intro () (And.intro trivial (And.intro rfl (And.intro (Eq.symm (oL g1)) (And.intro rfl (And.intro rfl (And.intro rfl (And.intro rfl trivial)))))))))
  · skip
    refine And.intro (fun g3 => ?_) (fun g3 => ?_)
    · skip
      replace h := cT g3 h
      refine Exists.intro none ?_
      subst h
      exact (And.intro rfl trivial)
    · skip
      replace h := cF g3 h
      refine Exists.intro none ?_
      refine And.intro (fun g4 => ?_) (fun g4 => ?_)
      · skip
        replace h := cT g4 h
        refine Exists.intro none ?_
        subst h
        exact (And.intro rfl trivial)
      · skip
        replace h := cF g4 h
        refine Exists.intro none ?_
        subst h
        exact (And.intro rfl trivial)
theorem c_wide_Compare (p0 : api_Wide) (p1 : api_Wide) : Contract Try.prog 116 [.agg [.int .u64 p0.Hi, .int .u64 p0.Lo], .agg [.int .u64 p1.Hi, .int .u64 p1.Lo]] [] (.int .i64 (wide_Compare p0 p1)) [] := c_wide_Compare' p0 p1 (wide_Compare p0 p1) rfl

theorem c_math_bits_Sub64 (p0 p1 p2 : Int) (r : (Int × Int)) (h : math_bits_Sub64 p0 p1 p2 = some r) : Contract Try.prog 143 [.int .u64 p0, .int .u64 p1, .int .u64 p2] [] (.tup [.int .u64 r.1, .int .u64 r.2]) [] :=
  ext_Sub64 Try.func143 (by kernel_rfl) (by kernel_rfl) (by kernel_rfl) (by kernel_rfl) p0 p1 p2 r h

theorem c_wide_Sub (p0 : api_Wide) (p1 : api_Wide) (r : (api_Wide × Bool)) (h : wide_Sub p0 p1 = some r) : Contract Try.prog 117 [.agg [.int .u64 p0.Hi, .int .u64 p0.Lo], .agg [.int .u64 p1.Hi, .int .u64 p1.Lo]] [] (.tup [.agg [.int .u64 r.1.Hi, .int .u64 r.1.Lo], .sb r.2]) [] := by
  refine contract_of_vcs tab_ok orders_ok Try.func117 Try.call117 (by kernel_rfl) 0 rfl rfl _ rfl ?_
  delta wide_Sub at h
  refine Exists.intro none ?_
  refine Exists.intro none ?_
  obtain ⟨y1_4, e1_4, h⟩ := bS h
  refine Exists.intro _ (Exists.intro _ (And.intro (Contract.wk (c_math_bits_Sub64 p0.Lo p1.Lo (0:Int) y1_4 e1_4) (And.intro rfl (And.intro rfl (And.intro rfl trivial)))) (And.intro rfl ?_)))
  refine Exists.intro none ?_
  obtain ⟨y2_5, e2_5, h⟩ := bS h
  refine Exists.intro _ (Exists.intro _ (And.intro (Contract.wk (c_math_bits_Sub64 p0.Hi p1.Hi y1_4.2 y2_5 e2_5) (And.intro rfl (And.intro rfl (And.intro rfl trivial)))) (And.intro rfl ?_)))
  refine Exists.intro none ?_
  refine And.intro (fun g1 => ?_) (fun g1 => ?_)
  · skip
    replace h := cT g1 h
    refine Exists.intro none ?_
    replace h := Option.some.inj h
    subst h
    exact (And.intro rfl (And.intro rfl (And.intro rfl trivial)))
  · skip
    replace h := cF g1 h
    refine Exists.intro none ?_
    replace h := Option.some.inj h
    subst h
    exact (And.intro rfl (And.intro rfl (And.intro rfl trivial)))

theorem c_exact_total (p0 : (List api_Item)) (r : (Bool × api_Wide)) (h : exact_total p0 = some r) : Contract Try.prog 62 [.lst 2 false (List.map enc_api_Item p0)] [] (.tup [.sb r.1, .agg [.int .u64 r.2.Hi, .int .u64 r.2.Lo]]) [] := by
  refine contract_of_vcs tab_ok orders_ok Try.func62 Try.call62 (by kernel_rfl) 0 rfl rfl _ rfl ?_
  delta exact_total at h
  refine Exists.intro none ?_
  refine Exists.intro none ?_
  refine Exists.intro none ?_
  refine Exists.intro [.int .i64 (p0.length : Int)] (And.intro (lenS enc_api_Item p0) ?_)
  replace h : exact_total_l2 p0 (0:Int) (0:Int) (0:Int) (0:Int) (0:Int) = some r := h
  delta exact_total_l2 at h
  obtain ⟨n1, h⟩ := loopS h
  refine Exists.intro ⟨(Int × Int × Int × Int × Int) × Nat, fun q => [(.tmp 3, .av (.ptr 1 0)), (.tmp 4, .av (.ptr 256 0)), (.tmp 5, .av (.ptr 257 0)), (.tmp 12, .av (.lst 2 false (List.map enc_api_Item p0))), (.tmp 13, .av (.int .i64 (p0.length : Int))), (.tmp 14, .av (.int .i64 q.1.1)), (.box 1, .box [.int .u64 (0:Int), .int .u64 (0:Int)]), (.box 256, .box [.int .u64 q.1.2.1, .int .u64 q.1.2.2.1]), (.box 257, .box [.int .u64 q.1.2.2.2.1, .int .u64 q.1.2.2.2.2])], fun q => loopN (fun (s : (Int × Int × Int × Int × Int)) => exact_total_l2s p0 s.1 s.2.1 s.2.2.1 s.2.2.2.1 s.2.2.2.2) q.2 q.1 = some r, fun q => q.2⟩ (And.intro (Exists.intro [] (Exists.intro [] (Exists.intro (((0:Int), (0:Int), (0:Int), (0:Int), (0:Int)), n1) (And.intro h (And.intro rfl (And.intro ff (And.intro rfl (And.intro rfl (And.intro rfl (And.intro rfl (And.intro rfl (And.intro rfl (And.intro rfl (And.intro rfl (And.intro rfl trivial))))))))))))))) ?_)
  clear h
  refine fun q h => ?_
  obtain ⟨⟨v2_14, v2_b1x0_0, v2_b1x0_1, v2_b1x1_0, v2_b1x1_1⟩, n1⟩ := q
  obtain ⟨m1, x1, hm1, h, hl1, hr1⟩ := loopN_step h
  replace hm1 : n1 = m1 + 1 := hm1
  subst hm1
  replace h : exact_total_l2s p0 v2_14 v2_b1x0_0 v2_b1x0_1 v2_b1x1_0 v2_b1x1_1 = some x1 := h
  delta exact_total_l2s at h
  refine Exists.intro none ?_
  refine And.intro (fun g1 => ?_) (fun g1 => ?_)
  · skip
    replace h := cT g1 h
    refine Exists.intro none ?_
    refine Exists.intro none ?_
    obtain ⟨x4_0, e4_0, h⟩ := bS h
    refine Exists.intro [.int .i64 x4_0.T, .int .i64 x4_0.V] (And.intro (idx_map enc_api_Item e4_0) ?_)
    refine Exists.intro none ?_
    refine Exists.intro none ?_
    refine And.intro (fun g2 => ?_) (fun g2 => ?_)
    · skip
      replace h := cT g2 h
      refine Exists.intro none ?_
      obtain ⟨y6_5, e6_5, h⟩ := bS h
      refine Exists.intro _ (Exists.intro _ (And.intro (Contract.wk (c_exact_size x4_0.V) (And.intro rfl trivial)) (And.intro rfl ?_)))
      refine Exists.intro _ (Exists.intro _ (And.intro (Contract.wk (c_wide_Of (exact_size x4_0.V)) (And.intro rfl trivial)) (And.intro rfl ?_)))
      refine Exists.intro _ (Exists.intro _ (And.intro (Contract.wk (c_wide_Add (api_Wide.mk v2_b1x1_0 v2_b1x1_1) (wide_Of (exact_size x4_0.V)) y6_5 e6_5) (And.intro rfl (And.intro rfl (And.intro rfl (And.intro rfl trivial))))) (And.intro rfl ?_)))
      refine Exists.intro none ?_
      exact Exists.intro [] (Exists.intro [] (Exists.intro (((w64 (v2_14 + (1:Int))), v2_b1x0_0, v2_b1x0_1, y6_5.1.Hi, y6_5.1.Lo), m1) (And.intro (hl1 ((w64 (v2_14 + (1:Int))), v2_b1x0_0, v2_b1x0_1, y6_5.1.Hi, y6_5.1.Lo) (Option.some.inj h).symm) (And.intro (Nat.lt_succ_self m1) (And.intro rfl (And.intro ff (And.intro rfl (And.intro rfl (And.intro rfl (And.intro rfl (And.intro rfl (And.intro rfl (And.intro rfl (And.intro rfl (And.intro rfl trivial)))))))))))))))
    · skip
      replace h := cF g2 h
      refine Exists.intro none ?_
      obtain ⟨y7_5, e7_5, h⟩ := bS h
      refine Exists.intro _ (Exists.intro _ (And.intro (Contract.wk (c_exact_size x4_0.V) (And.intro rfl trivial)) (And.intro rfl ?_)))
      refine Exists.intro _ (Exists.intro _ (And.intro (Contract.wk (c_wide_Of (exact_size x4_0.V)) (And.intro rfl trivial)) (And.intro rfl ?_)))
      refine Exists.intro _ (Exists.intro _ (And.intro (Contract.wk (c_wide_Add (api_Wide.mk v2_b1x0_0 v2_b1x0_1) (wide_Of (exact_size x4_0.V)) y7_5 e7_5) (And.intro rfl (And.intro rfl (And.intro rfl (And.intro rfl trivial))))) (And.intro rfl ?_)))
      refine Exists.intro none ?_
      exact Exists.intro [] (Exists.intro [] (Exists.intro (((w64 (v2_14 + (1:Int))), y7_5.1.Hi, y7_5.1.Lo, v2_b1x1_0, v2_b1x1_1), m1) (And.intro (hl1 ((w64 (v2_14 + (1:Int))), y7_5.1.Hi, y7_5.1.Lo, v2_b1x1_0, v2_b1x1_1) (Option.some.inj h).symm) (And.intro (Nat.lt_succ_self m1) (And.intro rfl (And.intro ff (And.intro rfl (And.intro rfl (And.intro rfl (And.intro rfl (And.intro rfl (And.intro rfl (And.intro rfl (And.intro rfl (And.intro rfl trivial)))))))))))))))
  · skip
    replace h := cF g1 h
    replace h := popS h hr1
    refine Exists.intro none ?_
    refine Exists.intro _ (Exists.intro _ (And.intro (Contract.wk (c_wide_Compare (api_Wide.mk v2_b1x0_0 v2_b1x0_1) (api_Wide.mk v2_b1x1_0 v2_b1x1_1)) (And.intro rfl (And.intro rfl (And.intro rfl (And.intro rfl trivial))))) (And.intro rfl ?_)))
    refine And.intro (fun g3 => ?_) (fun g3 => ?_)
    · skip
      replace h := cT g3 h
      refine Exists.intro none ?_
      obtain ⟨y10_2, e10_2, h⟩ := bS h
      refine Exists.intro _ (Exists.intro _ (And.intro (Contract.wk (c_wide_Sub (api_Wide.mk v2_b1x0_0 v2_b1x0_1) (api_Wide.mk v2_b1x1_0 v2_b1x1_1) y10_2 e10_2) (And.intro rfl (And.intro rfl (And.intro rfl (And.intro rfl trivial))))) (And.intro rfl ?_)))
      refine Exists.intro none ?_
      replace h := Option.some.inj h
      subst h
      exact (And.intro rfl (And.intro rfl (And.intro rfl trivial)))
    · skip
      replace h := cF g3 h
      refine Exists.intro none ?_
      obtain ⟨y12_2, e12_2, h⟩ := bS h
      refine Exists.intro _ (Exists.intro _ (And.intro (Contract.wk (c_wide_Sub (api_Wide.mk v2_b1x1_0 v2_b1x1_1) (api_Wide.mk v2_b1x0_0 v2_b1x0_1) y12_2 e12_2) (And.intro rfl (And.intro rfl (And.intro rfl (And.intro rfl trivial))))) (And.intro rfl ?_)))
      refine Exists.intro none ?_
      replace h := Option.some.inj h
      subst h
      exact (And.intro rfl (And.intro rfl (And.intro rfl trivial)))

theorem c_exact_Sum (p0 : (List api_Item)) (r : (Int × Bool)) (h : exact_Sum p0 = some r) : Contract Try.prog 16 [.lst 2 false (List.map enc_api_Item p0)] [] (.tup [.int .i64 r.1, .sb r.2]) [] := by
  refine contract_of_vcs tab_ok orders_ok Try.func16 Try.call16 (by kernel_rfl) 0 rfl rfl _ rfl ?_
  delta exact_Sum at h
  refine Exists.intro none ?_
  refine Exists.intro none ?_
  obtain ⟨y1_1, e1_1, h⟩ := bS h
  refine Exists.intro _ (Exists.intro _ (And.intro (Contract.wk (c_exact_total p0 y1_1 e1_1) (And.intro ff (And.intro rfl trivial))) (And.intro rfl ?_)))
  refine Exists.intro none ?_
  refine Exists.intro (some (⟨Unit, fun _ => [(.tmp 4, .av (.sb y1_1.1)), (.tmp 5, .av (.ptr 261 0)), (.tmp 27, .av (.sb (((y1_1.2.Hi != (0:Int)) || (decide (y1_1.2.Lo > (9223372036854775808:Int)))) || ((y1_1.2.Lo == (9223372036854775808:Int)) && (!y1_1.1))))), (.box 261, .box [.int .u64 y1_1.2.Hi, .int .u64 y1_1.2.Lo])], fun _ => True, fun _ => 0⟩, 1000000)) (And.intro ?_ (fun _ _ => ?_))
  · skip
    refine And.intro (fun g1 => ?_) (fun g1 => ?_)
    · skip
      refine And.intro (fun g2 => ?_) (fun g2 => ?_)
      · skip
        refine And.intro (fun g3 => ?_) (fun g3 => ?_)
        · skip
          exact Exists.intro [] (Exists.intro [] (Exists.intro () (And.intro trivial (And.intro rfl (And.intro rfl (And.intro (Eq.symm (oR (oR g1 g2) (aR g3 rfl))) (And.intro rfl (And.intro rfl trivial))))))))
        · skip
          exact Exists.intro [] (Exists.intro [] (Exists.intro () (And.intro trivial (And.intro rfl (And.intro rfl (And.intro (Eq.symm (oR (oR g1 g2) (aL g3))) (And.intro rfl (And.intro rfl trivial))))))))
      · skip
        exact Exists.intro [] (Exists.intro [] (Exists.intro () (And.intro trivial (And.intro rfl (And.intro rfl (And.intro (Eq.symm (oL (oR g1 g2))) (And.intro rfl (And.intro rfl trivial))))))))
    · skip
      exact Exists.intro [] (Exists.intro [] (Exists.intro () (And.intro trivial (And.intro rfl (And.intro rfl (And.intro (Eq.symm (oL (oL g1))) (And.intro rfl (And.intro rfl trivial))))))))
  · skip
    refine And.intro (fun g4 => ?_) (fun g4 => ?_)
    · skip
      replace h := cT g4 h
      refine Exists.intro none ?_
      replace h := Option.some.inj h
      subst h
      exact (And.intro rfl (And.intro rfl trivial))
    · skip
      replace h := cF g4 h
      refine Exists.intro none ?_
      refine And.intro (fun g5 => ?_) (fun g5 => ?_)
      · skip
        replace h := cT g5 h
        refine Exists.intro none ?_
        replace h := Option.some.inj h
        subst h
        exact (And.intro rfl (And.intro rfl trivial))
      · skip
        replace h := cF g5 h
        refine Exists.intro none ?_
        replace h := Option.some.inj h
        subst h
        exact (And.intro rfl (And.intro rfl trivial))

theorem c_ref01_Abs' (p0 : Int) (r : Int) (h : ref01_Abs p0 = r) : Contract Try.prog 64 [.int .i64 p0] [] (.int .u64 r) [] := by
  refine contract_of_vcs tab_ok orders_ok Try.func64 Try.call64 (by kernel_rfl) 0 rfl rfl _ rfl ?_
  delta ref01_Abs at h
  refine Exists.intro none ?_
  refine Exists.intro none ?_
  refine And.intro (fun g1 => ?_) (fun g1 => ?_)
  · skip
    replace h := cT g1 h
    refine Exists.intro none ?_
    subst h
    exact (And.intro rfl trivial)
  · skip
    replace h := cF g1 h
    refine Exists.intro none ?_
    subst h
    exact (And.intro rfl trivial)
theorem c_ref01_Abs (p0 : Int) : Contract Try.prog 64 [.int .i64 p0] [] (.int .u64 (ref01_Abs p0)) [] := c_ref01_Abs' p0 (ref01_Abs p0) rfl

theorem c_ref02_Of' (p0 : Int) (r : api_Wide) (h : ref02_Of p0 = r) : Contract Try.prog 63 [.int .u64 p0] [] (.agg [.int .u64 r.Hi, .int .u64 r.Lo]) [] := by
  refine contract_of_vcs tab_ok orders_ok Try.func63 Try.call63 (by kernel_rfl) 0 rfl rfl _ rfl ?_
  delta ref02_Of at h
  refine Exists.intro none ?_
  refine Exists.intro none ?_
  subst h
  exact (And.intro rfl (And.intro rfl trivial))
theorem c_ref02_Of (p0 : Int) : Contract Try.prog 63 [.int .u64 p0] [] (.agg [.int .u64 (ref02_Of p0).Hi, .int .u64 (ref02_Of p0).Lo]) [] := c_ref02_Of' p0 (ref02_Of p0) rfl

theorem c_ref02_Add (p0 : api_Wide) (p1 : api_Wide) (r : (api_Wide × Bool)) (h : ref02_Add p0 p1 = some r) : Contract Try.prog 78 [.agg [.int .u64 p0.Hi, .int .u64 p0.Lo], .agg [.int .u64 p1.Hi, .int .u64 p1.Lo]] [] (.tup [.agg [.int .u64 r.1.Hi, .int .u64 r.1.Lo], .sb r.2]) [] := by
  refine contract_of_vcs tab_ok orders_ok Try.func78 Try.call78 (by kernel_rfl) 0 rfl rfl _ rfl ?_
  delta ref02_Add at h
  refine Exists.intro none ?_
  refine Exists.intro none ?_
  obtain ⟨y1_4, e1_4, h⟩ := bS h
  refine Exists.intro _ (Exists.intro _ (And.intro (Contract.wk (c_math_bits_Add64 p0.Lo p1.Lo (0:Int) y1_4 e1_4) (And.intro rfl (And.intro rfl (And.intro rfl trivial)))) (And.intro rfl ?_)))
  refine Exists.intro none ?_
  obtain ⟨y2_5, e2_5, h⟩ := bS h
  refine Exists.intro _ (Exists.intro _ (And.intro (Contract.wk (c_math_bits_Add64 p0.Hi p1.Hi y1_4.2 y2_5 e2_5) (And.intro rfl (And.intro rfl (And.intro rfl trivial)))) (And.intro rfl ?_)))
  refine Exists.intro none ?_
  refine And.intro (fun g1 => ?_) (fun g1 => ?_)
  · skip
    replace h := cT g1 h
    refine Exists.intro none ?_
    replace h := Option.some.inj h
    subst h
    exact (And.intro rfl (And.intro rfl (And.intro rfl trivial)))
  · skip
    replace h := cF g1 h
    refine Exists.intro none ?_
    replace h := Option.some.inj h
    subst h
    exact (And.intro rfl (And.intro rfl (And.intro rfl trivial)))

theorem c_ref08_total (p0 : (List api_Wide)) (p1 : (List Bool)) (r : (api_Wide × api_Wide × Bool)) (h : ref08_total p0 p1 = some r) : Contract Try.prog 65 [.lst 2 false (List.map enc_api_Wide p0), .lst 1 false (List.map eB p1)] [] (.tup [.agg [.int .u64 r.1.Hi, .int .u64 r.1.Lo], .agg [.int .u64 r.2.1.Hi, .int .u64 r.2.1.Lo], .sb r.2.2]) [] := by
  refine contract_of_vcs tab_ok orders_ok Try.func65 Try.call65 (by kernel_rfl) 0 rfl rfl _ rfl ?_
  delta ref08_total at h
  refine Exists.intro none ?_
  refine Exists.intro none ?_
  refine Exists.intro none ?_
  refine Exists.intro none ?_
  refine Exists.intro [.int .i64 (p0.length : Int)] (And.intro (lenS enc_api_Wide p0) ?_)
  replace h : ref08_total_l2 p0 p1 true (0:Int) (0:Int) (0:Int) (0:Int) (0:Int) = some r := h
  delta ref08_total_l2 at h
  obtain ⟨n1, h⟩ := loopS h
  refine Exists.intro ⟨(Bool × Int × Int × Int × Int × Int) × Nat, fun q => [(.tmp 1, .av (.lst 1 false (List.map eB p1))), (.tmp 4, .av (.ptr 0 0)), (.tmp 5, .av (.ptr 1 0)), (.tmp 7, .av (.ptr 256 0)), (.tmp 8, .av (.ptr 257 0)), (.tmp 9, .av (.sb q.1.1)), (.tmp 13, .av (.lst 2 false (List.map enc_api_Wide p0))), (.tmp 14, .av (.int .i64 (p0.length : Int))), (.tmp 15, .av (.int .i64 q.1.2.1)), (.box 0, .box [.int .u64 (0:Int), .int .u64 (0:Int)]), (.box 1, .box [.int .u64 (0:Int), .int .u64 (0:Int)]), (.box 256, .box [.int .u64 q.1.2.2.1, .int .u64 q.1.2.2.2.1]), (.box 257, .box [.int .u64 q.1.2.2.2.2.1, .int .u64 q.1.2.2.2.2.2])], fun q => loopN (fun (s : (Bool × Int × Int × Int × Int × Int)) => ref08_total_l2s p0 p1 s.1 s.2.1 s.2.2.1 s.2.2.2.1 s.2.2.2.2.1 s.2.2.2.2.2) q.2 q.1 = some r, fun q => q.2⟩ (And.intro (Exists.intro [] (Exists.intro [] (Exists.intro ((true, (0:Int), (0:Int), (0:Int), (0:Int), (0:Int)), n1) (And.intro h (And.intro rfl (And.intro ff (And.intro rfl (And.intro rfl (And.intro ff (And.intro rfl (And.intro rfl (And.intro rfl (And.intro rfl (And.intro rfl (And.intro rfl (And.intro rfl (And.intro rfl (And.intro rfl (And.intro rfl (And.intro rfl trivial)))))))))))))))))))) ?_)
  clear h
  refine fun q h => ?_
  obtain ⟨⟨v2_9, v2_15, v2_b1x0_0, v2_b1x0_1, v2_b1x1_0, v2_b1x1_1⟩, n1⟩ := q
  obtain ⟨m1, x1, hm1, h, hl1, hr1⟩ := loopN_step h
  replace hm1 : n1 = m1 + 1 := hm1
  subst hm1
  replace h : ref08_total_l2s p0 p1 v2_9 v2_15 v2_b1x0_0 v2_b1x0_1 v2_b1x1_0 v2_b1x1_1 = some x1 := h
  delta ref08_total_l2s at h
  refine Exists.intro none ?_
  refine And.intro (fun g1 => ?_) (fun g1 => ?_)
  · skip
    replace h := cT g1 h
    refine Exists.intro none ?_
    refine Exists.intro none ?_
    obtain ⟨x5_1, e5_1, h⟩ := bS h
    refine Exists.intro [.int .u64 x5_1.Hi, .int .u64 x5_1.Lo] (And.intro (idx_map enc_api_Wide e5_1) ?_)
    refine Exists.intro none ?_
    refine Exists.intro none ?_
    obtain ⟨x7_2, e7_2, h⟩ := bS h
    refine Exists.intro [.sb x7_2] (And.intro (idx_map eB e7_2) ?_)
    refine Exists.intro (some (⟨Bool × Int × Int × Int × Int, fun q => [(.tmp 1, .av (.lst 1 false (List.map eB p1))), (.tmp 4, .av (.ptr 0 0)), (.tmp 5, .av (.ptr 1 0)), (.tmp 7, .av (.ptr 256 0)), (.tmp 8, .av (.ptr 257 0)), (.tmp 9, .av (.sb v2_9)), (.tmp 12, .av (.sb q.1)), (.tmp 13, .av (.lst 2 false (List.map enc_api_Wide p0))), (.tmp 14, .av (.int .i64 (p0.length : Int))), (.tmp 15, .av (.int .i64 v2_15)), (.box 0, .box [.int .u64 (0:Int), .int .u64 (0:Int)]), (.box 1, .box [.int .u64 (0:Int), .int .u64 (0:Int)]), (.box 256, .box [.int .u64 q.2.1, .int .u64 q.2.2.1]), (.box 257, .box [.int .u64 q.2.2.2.1, .int .u64 q.2.2.2.2])], fun q => ref08_total_j5 v2_9 v2_15 q.1 q.2.1 q.2.2.1 q.2.2.2.1 q.2.2.2.2 = some x1, fun _ => 0⟩, 1000000)) (And.intro ?_ ?_)
    · skip
      refine And.intro (fun g2 => ?_) (fun g2 => ?_)
      · skip
        replace h := cT g2 h
        refine Exists.intro none ?_
        obtain ⟨y8_2, e8_2, h⟩ := bS h
        refine Exists.intro _ (Exists.intro _ (And.intro (Contract.wk (c_ref02_Add (api_Wide.mk v2_b1x1_0 v2_b1x1_1) x5_1 y8_2 e8_2) (And.intro rfl (And.intro rfl (And.intro rfl (And.intro rfl trivial))))) (And.intro rfl ?_)))
        exact Exists.intro [] (Exists.intro [] (Exists.intro (y8_2.2, v2_b1x0_0, v2_b1x0_1, y8_2.1.Hi, y8_2.1.Lo) (And.intro h (And.intro rfl (And.intro ff (And.intro rfl (And.intro rfl (And.intro rfl (And.intro ff (And.intro rfl (And.intro rfl (And.intro rfl (And.intro rfl (And.intro rfl (And.intro rfl (And.intro rfl (And.intro rfl (And.intro rfl (And.intro rfl (And.intro rfl trivial))))))))))))))))))))
      · skip
        replace h := cF g2 h
        refine Exists.intro none ?_
        obtain ⟨y9_2, e9_2, h⟩ := bS h
        refine Exists.intro _ (Exists.intro _ (And.intro (Contract.wk (c_ref02_Add (api_Wide.mk v2_b1x0_0 v2_b1x0_1) x5_1 y9_2 e9_2) (And.intro rfl (And.intro rfl (And.intro rfl (And.intro rfl trivial))))) (And.intro rfl ?_)))
        exact Exists.intro [] (Exists.intro [] (Exists.intro (y9_2.2, y9_2.1.Hi, y9_2.1.Lo, v2_b1x1_0, v2_b1x1_1) (And.intro h (And.intro rfl (And.intro ff (And.intro rfl (And.intro rfl (And.intro rfl (And.intro ff (And.intro rfl (And.intro rfl (And.intro rfl (And.intro rfl (And.intro rfl (And.intro rfl (And.intro rfl (And.intro rfl (And.intro rfl (And.intro rfl (And.intro rfl trivial))))))))))))))))))))
    · skip
      clear h
      refine fun q h => ?_
      obtain ⟨j5_12, j5_b1x0_0, j5_b1x0_1, j5_b1x1_0, j5_b1x1_1⟩ := q
      replace h : ref08_total_j5 v2_9 v2_15 j5_12 j5_b1x0_0 j5_b1x0_1 j5_b1x1_0 j5_b1x1_1 = some x1 := h
      delta ref08_total_j5 at h
      refine Exists.intro none ?_
      refine Exists.intro (some (⟨Unit, fun _ => [(.tmp 1, .av (.lst 1 false (List.map eB p1))), (.tmp 4, .av (.ptr 0 0)), (.tmp 5, .av (.ptr 1 0)), (.tmp 7, .av (.ptr 256 0)), (.tmp 8, .av (.ptr 257 0)), (.tmp 9, .av (.sb (v2_9 && j5_12))), (.tmp 13, .av (.lst 2 false (List.map enc_api_Wide p0))), (.tmp 14, .av (.int .i64 (p0.length : Int))), (.tmp 15, .av (.int .i64 v2_15)), (.box 0, .box [.int .u64 (0:Int), .int .u64 (0:Int)]), (.box 1, .box [.int .u64 (0:Int), .int .u64 (0:Int)]), (.box 256, .box [.int .u64 j5_b1x0_0, .int .u64 j5_b1x0_1]), (.box 257, .box [.int .u64 j5_b1x1_0, .int .u64 j5_b1x1_1])], fun _ => True, fun _ => 0⟩, 2000000)) (And.intro ?_ (fun _ _ => ?_))
      · skip
        refine And.intro (fun g3 => ?_) (fun g3 => ?_)
        · skip
          exact Exists.intro [] (Exists.intro [] (Exists.intro () (And.intro trivial (And.intro rfl (And.intro ff (And.intro rfl (And.intro (Eq.symm (aR g3 rfl)) (And.intro ff (And.intro rfl (And.intro rfl (And.intro rfl (And.intro rfl (And.intro rfl (And.intro rfl (And.intro rfl (And.intro rfl (And.intro rfl (And.intro rfl (And.intro rfl trivial)))))))))))))))))))
        · skip
          exact Exists.intro [] (Exists.intro [] (Exists.intro () (And.intro trivial (And.intro rfl (And.intro ff (And.intro rfl (And.intro (Eq.symm (aL g3)) (And.intro ff (And.intro rfl (And.intro rfl (And.intro rfl (And.intro rfl (And.intro rfl (And.intro rfl (And.intro rfl (And.intro rfl (And.intro rfl (And.intro rfl (And.intro rfl trivial)))))))))))))))))))
      · skip
        refine Exists.intro none ?_
        exact Exists.intro [] (Exists.intro [] (Exists.intro (((v2_9 && j5_12), (w64 (v2_15 + (1:Int))), j5_b1x0_0, j5_b1x0_1, j5_b1x1_0, j5_b1x1_1), m1) (And.intro (hl1 ((v2_9 && j5_12), (w64 (v2_15 + (1:Int))), j5_b1x0_0, j5_b1x0_1, j5_b1x1_0, j5_b1x1_1) (Option.some.inj h).symm) (And.intro (Nat.lt_succ_self m1) (And.intro rfl (And.intro ff (And.intro rfl (And.intro rfl (And.intro ff (And.intro rfl (And.intro rfl (And.intro rfl (And.intro rfl (And.intro rfl (And.intro rfl (And.intro rfl (And.intro rfl (And.intro rfl (And.intro rfl (And.intro rfl trivial))))))))))))))))))))
  · skip
    replace h := cF g1 h
    replace h := popS h hr1
    refine Exists.intro none ?_
    replace h := Option.some.inj h
    subst h
    exact (And.intro rfl (And.intro rfl (And.intro rfl (And.intro rfl (And.intro rfl trivial)))))

theorem c_ref02_Compare' (p0 : api_Wide) (p1 : api_Wide) (r : Int) (h : ref02_Compare p0 p1 = r) : Contract Try.prog 148 [.agg [.int .u64 p0.Hi, .int .u64 p0.Lo], .agg [.int .u64 p1.Hi, .int .u64 p1.Lo]] [] (.int .i64 r) [] := by
  refine contract_of_vcs tab_ok orders_ok Try.func148 Try.call148 (by kernel_rfl) 0 rfl rfl _ rfl ?_
  delta ref02_Compare at h
  refine Exists.intro none ?_
  refine Exists.intro none ?_
  refine Exists.intro (some (⟨Unit, fun _ => [(.tmp 2, .av (.ptr 0 0)), (.tmp 3, .av (.ptr 1 0)), (.tmp 5, .av (.sb ((decide (p0.Hi < p1.Hi)) || ((p0.Hi == p1.Hi) && (decide (p0.Lo < p1.Lo)))))), (.box 0, .box [.int .u64 p0.Hi, .int .u64 p0.Lo]), (.box 1, .box [.int .u64 p1.Hi, .int .u64 p1.Lo])], fun _ => True, fun _ => 0⟩, 1000000)) (And.intro ?_ (fun _ _ => ?_))
  · skip
    refine And.intro (fun g1 => ?_) (fun g1 => ?_)
    · skip
      refine And.intro (fun g2 => ?_) (fun g2 => ?_)
      · skip
        exact Exists.intro [] (Exists.intro [] (Exists.intro () (And.intro trivial (And.intro rfl (And.intro (Eq.symm (oR g1 (aR g2 rfl))) (And.intro rfl (And.intro rfl (And.intro rfl (And.intro rfl trivial)))))))))
      · skip
        exact Exists.intro [] (Exists.intro [] (Exists.intro () (And.intro trivial (And.intro rfl (And.intro (Eq.symm (oR g1 (aL g2))) (And.intro rfl (And.intro rfl (And.intro rfl (And.intro rfl trivial)))))))))
    · skip
      exact Exists.intro [] (Exists.intro [] (Exists.intro () (And.intro trivial (And.intro rfl (And.intro (Eq.symm (oL g1)) (And.intro rfl (And.intro rfl (And.intro rfl (And.intro rfl trivial)))))))))
  · skip
    refine And.intro (fun g3 => ?_) (fun g3 => ?_)
    · skip
      replace h := cT g3 h
      refine Exists.intro none ?_
      subst h
      exact (And.intro rfl trivial)
    · skip
      replace h := cF g3 h
      refine Exists.intro none ?_
      refine And.intro (fun g4 => ?_) (fun g4 => ?_)
      · skip
        replace h := cT g4 h
        refine Exists.intro none ?_
        subst h
        exact (And.intro rfl trivial)
      · skip
        replace h := cF g4 h
        refine Exists.intro none ?_
        subst h
        exact (And.intro rfl trivial)
theorem c_ref02_Compare (p0 : api_Wide) (p1 : api_Wide) : Contract Try.prog 148 [.agg [.int .u64 p0.Hi, .int .u64 p0.Lo], .agg [.int .u64 p1.Hi, .int .u64 p1.Lo]] [] (.int .i64 (ref02_Compare p0 p1)) [] := c_ref02_Compare' p0 p1 (ref02_Compare p0 p1) rfl

theorem c_ref02_Sub (p0 : api_Wide) (p1 : api_Wide) (r : (api_Wide × Bool)) (h : ref02_Sub p0 p1 = some r) : Contract Try.prog 118 [.agg [.int .u64 p0.Hi, .int .u64 p0.Lo], .agg [.int .u64 p1.Hi, .int .u64 p1.Lo]] [] (.tup [.agg [.int .u64 r.1.Hi, .int .u64 r.1.Lo], .sb r.2]) [] := by
  refine contract_of_vcs tab_ok orders_ok Try.func118 Try.call118 (by kernel_rfl) 0 rfl rfl _ rfl ?_
  delta ref02_Sub at h
  refine Exists.intro none ?_
  refine Exists.intro none ?_
  refine Exists.intro _ (Exists.intro _ (And.intro (Contract.wk (c_ref02_Compare p0 p1) (And.intro rfl (And.intro rfl (And.intro rfl (And.intro rfl trivial))))) (And.intro rfl ?_)))
  refine And.intro (fun g1 => ?_) (fun g1 => ?_)
  · skip
    replace h := cT g1 h
    refine Exists.intro none ?_
    replace h := Option.some.inj h
    subst h
    exact (And.intro rfl (And.intro rfl (And.intro rfl trivial)))
  · skip
    replace h := cF g1 h
    refine Exists.intro none ?_
    obtain ⟨y3_4, e3_4, h⟩ := bS h
    refine Exists.intro _ (Exists.intro _ (And.intro (Contract.wk (c_math_bits_Sub64 p0.Lo p1.Lo (0:Int) y3_4 e3_4) (And.intro rfl (And.intro rfl (And.intro rfl trivial)))) (And.intro rfl ?_)))
    refine Exists.intro none ?_
    obtain ⟨y4_5, e4_5, h⟩ := bS h
    refine Exists.intro _ (Exists.intro _ (And.intro (Contract.wk (c_math_bits_Sub64 p0.Hi p1.Hi y3_4.2 y4_5 e4_5) (And.intro rfl (And.intro rfl (And.intro rfl trivial)))) (And.intro rfl ?_)))
    refine Exists.intro none ?_
    replace h := Option.some.inj h
    subst h
    exact (And.intro rfl (And.intro rfl (And.intro rfl trivial)))

theorem c_ref08_number (p0 : api_Wide) (p1 : api_Wide) (r : (Int × Bool)) (h : ref08_number p0 p1 = some r) : Contract Try.prog 66 [.agg [.int .u64 p0.Hi, .int .u64 p0.Lo], .agg [.int .u64 p1.Hi, .int .u64 p1.Lo]] [] (.tup [.int .i64 r.1, .sb r.2]) [] := by
  refine contract_of_vcs tab_ok orders_ok Try.func66 Try.call66 (by kernel_rfl) 0 rfl rfl _ rfl ?_
  delta ref08_number at h
  refine Exists.intro none ?_
  refine Exists.intro none ?_
  obtain ⟨y1_2, e1_2, h⟩ := bS h
  refine Exists.intro _ (Exists.intro _ (And.intro (Contract.wk (c_ref02_Sub p0 p1 y1_2 e1_2) (And.intro rfl (And.intro rfl (And.intro rfl (And.intro rfl trivial))))) (And.intro rfl ?_)))
  refine Exists.intro none ?_
  refine And.intro (fun g1 => ?_) (fun g1 => ?_)
  · skip
    replace h := cT g1 h
    refine Exists.intro none ?_
    refine Exists.intro none ?_
    refine And.intro (fun g2 => ?_) (fun g2 => ?_)
    · skip
      replace h := Option.some.inj h
      subst h
      exact (And.intro rfl (And.intro (Eq.symm (aR g2 rfl)) trivial))
    · skip
      replace h := Option.some.inj h
      subst h
      exact (And.intro rfl (And.intro (Eq.symm (aL g2)) trivial))
  · skip
    replace h := cF g1 h
    refine Exists.intro none ?_
    obtain ⟨y4_2, e4_2, h⟩ := bS h
    refine Exists.intro _ (Exists.intro _ (And.intro (Contract.wk (c_ref02_Sub p1 p0 y4_2 e4_2) (And.intro rfl (And.intro rfl (And.intro rfl (And.intro rfl trivial))))) (And.intro rfl ?_)))
    refine Exists.intro none ?_
    refine Exists.intro (some (⟨Unit, fun _ => [(.tmp 8, .av (.ptr 774 0)), (.tmp 42, .av (.sb ((y4_2.1.Hi == (0:Int)) && (y4_2.1.Lo == (9223372036854775808:Int))))), (.box 774, .box [.int .u64 y4_2.1.Hi, .int .u64 y4_2.1.Lo])], fun _ => True, fun _ => 0⟩, 1000000)) (And.intro ?_ (fun _ _ => ?_))
    · skip
      refine And.intro (fun g3 => ?_) (fun g3 => ?_)
      · skip
        exact Exists.intro [] (Exists.intro [] (Exists.intro () (And.intro trivial (And.intro rfl (And.intro (Eq.symm (aR g3 rfl)) (And.intro rfl (And.intro rfl trivial)))))))
      · skip
        exact Exists.intro [] (Exists.intro [] (Exists.intro () (And.intro trivial (And.intro rfl (And.intro (Eq.symm (aL g3)) (And.intro rfl (And.intro rfl trivial)))))))
    · skip
      refine And.intro (fun g4 => ?_) (fun g4 => ?_)
      · skip
        replace h := cT g4 h
        refine Exists.intro none ?_
        replace h := Option.some.inj h
        subst h
        exact (And.intro rfl (And.intro rfl trivial))
      · skip
        replace h := cF g4 h
        refine Exists.intro none ?_
        refine Exists.intro none ?_
        refine And.intro (fun g5 => ?_) (fun g5 => ?_)
        · skip
          replace h := Option.some.inj h
          subst h
          exact (And.intro rfl (And.intro (Eq.symm (aR g5 rfl)) trivial))
        · skip
          replace h := Option.some.inj h
          subst h
          exact (And.intro rfl (And.intro (Eq.symm (aL g5)) trivial))

theorem c_ref08_Sum (p0 : (List api_Item)) (r : (Int × Bool)) (h : ref08_Sum p0 = some r) : Contract Try.prog 17 [.lst 2 false (List.map enc_api_Item p0)] [] (.tup [.int .i64 r.1, .sb r.2]) [] := by
  refine contract_of_vcs tab_ok orders_ok Try.func17 Try.call17 (by kernel_rfl) 0 rfl rfl _ rfl ?_
  delta ref08_Sum at h
  refine Exists.intro none ?_
  refine Exists.intro none ?_
  refine Exists.intro none ?_
  refine Exists.intro none ?_
  refine Exists.intro [.int .i64 (p0.length : Int)] (And.intro (lenS enc_api_Item p0) ?_)
  replace h : ref08_Sum_l2 p0 ([] : List api_Wide) ([] : List Bool) (0:Int) = some r := h
  delta ref08_Sum_l2 at h
  obtain ⟨n1, h⟩ := loopS h
  refine Exists.intro ⟨((List api_Wide) × (List Bool) × Int) × Nat, fun q => [(.tmp 4, .av (.own 1023)), (.tmp 5, .av (.own 1022)), (.tmp 13, .av (.lst 2 false (List.map enc_api_Item p0))), (.tmp 14, .av (.int .i64 (p0.length : Int))), (.tmp 15, .av (.int .i64 q.1.2.2)), (.tok 1022, .tok 4 1 (List.map eB q.1.2.1)), (.tok 1023, .tok 30 2 (List.map enc_api_Wide q.1.1))], fun q => loopN (fun (s : ((List api_Wide) × (List Bool) × Int)) => ref08_Sum_l2s p0 s.1 s.2.1 s.2.2) q.2 q.1 = some r, fun q => q.2⟩ (And.intro (Exists.intro [(1022, none), (1023, none)] (Exists.intro [] (Exists.intro ((([] : List api_Wide), ([] : List Bool), (0:Int)), n1) (And.intro h (And.intro rfl (And.intro ff (And.intro rfl (And.intro rfl (And.intro rfl (And.intro rfl (And.intro rfl trivial))))))))))) ?_)
  clear h
  refine fun q h => ?_
  obtain ⟨⟨v2_4, v2_5, v2_15⟩, n1⟩ := q
  obtain ⟨m1, x1, hm1, h, hl1, hr1⟩ := loopN_step h
  replace hm1 : n1 = m1 + 1 := hm1
  subst hm1
  replace h : ref08_Sum_l2s p0 v2_4 v2_5 v2_15 = some x1 := h
  delta ref08_Sum_l2s at h
  refine Exists.intro none ?_
  refine And.intro (fun g1 => ?_) (fun g1 => ?_)
  · skip
    replace h := cT g1 h
    refine Exists.intro none ?_
    obtain ⟨x5_0, e5_0, h⟩ := bS h
    refine Exists.intro [.int .i64 x5_0.T, .int .i64 x5_0.V] (And.intro (idx_map enc_api_Item e5_0) ?_)
    refine Exists.intro none ?_
    obtain ⟨k6_6, h⟩ := ckS h
    obtain ⟨k6_12, h⟩ := ckS h
    refine Exists.intro _ (Exists.intro _ (And.intro (Contract.wk (c_ref01_Abs x5_0.V) (And.intro rfl trivial)) (And.intro rfl ?_)))
    refine Exists.intro _ (Exists.intro _ (And.intro (Contract.wk (c_ref02_Of (ref01_Abs x5_0.V)) (And.intro rfl trivial)) (And.intro rfl ?_)))
    refine And.intro (by have hh := (of_decide_eq_true k6_6); (try simp only [fixRows_length, List.length_map, List.length_append, List.length_take, List.length_drop, List.length_set, List.length_replicate, List.length_cons, List.length_nil] at hh); (try simp only [fixRows_length, List.length_map, List.length_append, List.length_take, List.length_drop, List.length_set, List.length_replicate, List.length_cons, List.length_nil]); omega) ?_
    refine And.intro (by have hh := (of_decide_eq_true k6_12); (try simp only [fixRows_length, List.length_map, List.length_append, List.length_take, List.length_drop, List.length_set, List.length_replicate, List.length_cons, List.length_nil] at hh); (try simp only [fixRows_length, List.length_map, List.length_append, List.length_take, List.length_drop, List.length_set, List.length_replicate, List.length_cons, List.length_nil]); omega) ?_
    refine Exists.intro none ?_
    exact Exists.intro [(1022, some 1548), (1023, some 1542)] (Exists.intro [] (Exists.intro (((v2_4 ++ [(ref02_Of (ref01_Abs x5_0.V))]), (v2_5 ++ [(decide (x5_0.V < (0:Int)))]), (w64 (v2_15 + (1:Int)))), m1) (And.intro (hl1 ((v2_4 ++ [(ref02_Of (ref01_Abs x5_0.V))]), (v2_5 ++ [(decide (x5_0.V < (0:Int)))]), (w64 (v2_15 + (1:Int)))) (Option.some.inj h).symm) (And.intro (Nat.lt_succ_self m1) (And.intro rfl (And.intro ff (And.intro rfl (And.intro rfl (And.intro rfl (And.intro (by first | rfl | (simp only [List.map_append, List.map_cons, List.map_nil, List.map_take, List.map_drop, List.map_set, List.map_replicate]; done) | (simp only [List.map_append, List.map_cons, List.map_nil, List.map_take, List.map_drop, List.map_set, List.map_replicate]; rfl) | (simp only [List.map_append, List.map_cons, List.map_nil, List.map_take, List.map_drop, List.map_set, List.map_replicate, eL, enc_api_Command, enc_tape_Tape, enc_ref27_Cursor, enc_api_Chain, enc_api_Sample, enc_chain_source, enc_made_Tape, enc_api_Answer, enc_api_Reply]; done) | (simp only [List.map_append, List.map_cons, List.map_nil, List.map_take, List.map_drop, List.map_set, List.map_replicate, eL, enc_api_Command, enc_tape_Tape, enc_ref27_Cursor, enc_api_Chain, enc_api_Sample, enc_chain_source, enc_made_Tape, enc_api_Answer, enc_api_Reply]; rfl)) (And.intro (by first | rfl | (simp only [List.map_append, List.map_cons, List.map_nil, List.map_take, List.map_drop, List.map_set, List.map_replicate]; done) | (simp only [List.map_append, List.map_cons, List.map_nil, List.map_take, List.map_drop, List.map_set, List.map_replicate]; rfl) | (simp only [List.map_append, List.map_cons, List.map_nil, List.map_take, List.map_drop, List.map_set, List.map_replicate, eL, enc_api_Command, enc_tape_Tape, enc_ref27_Cursor, enc_api_Chain, enc_api_Sample, enc_chain_source, enc_made_Tape, enc_api_Answer, enc_api_Reply]; done) | (simp only [List.map_append, List.map_cons, List.map_nil, List.map_take, List.map_drop, List.map_set, List.map_replicate, eL, enc_api_Command, enc_tape_Tape, enc_ref27_Cursor, enc_api_Chain, enc_api_Sample, enc_chain_source, enc_made_Tape, enc_api_Answer, enc_api_Reply]; rfl)) trivial)))))))))))
  · skip
    replace h := cF g1 h
    replace h := popS h hr1
    refine Exists.intro none ?_
    obtain ⟨y8_2, e8_2, h⟩ := bS h
    refine Exists.intro _ (Exists.intro _ (And.intro (Contract.wk (c_ref08_total v2_4 v2_5 y8_2 e8_2) (And.intro ff (And.intro rfl (And.intro ff (And.intro rfl trivial))))) (And.intro rfl ?_)))
    refine Exists.intro none ?_
    obtain ⟨y9_2, e9_2, h⟩ := bS h
    refine Exists.intro _ (Exists.intro _ (And.intro (Contract.wk (c_ref08_number y8_2.1 y8_2.2.1 y9_2 e9_2) (And.intro rfl (And.intro rfl (And.intro rfl (And.intro rfl trivial))))) (And.intro rfl ?_)))
    refine Exists.intro none ?_
    refine And.intro (fun g2 => ?_) (fun g2 => ?_)
    · skip
      replace h := cT g2 h
      refine Exists.intro none ?_
      replace h := Option.some.inj h
      subst h
      exact (And.intro rfl (And.intro rfl trivial))
    · skip
      replace h := cF g2 h
      refine Exists.intro none ?_
      replace h := Option.some.inj h
      subst h
      exact (And.intro rfl (And.intro rfl trivial))

theorem c_ref02_Product' (p0 : Int) (p1 : Int) (r : api_Wide) (h : ref02_Product p0 p1 = r) : Contract Try.prog 121 [.int .u64 p0, .int .u64 p1] [] (.agg [.int .u64 r.Hi, .int .u64 r.Lo]) [] := by
  refine contract_of_vcs tab_ok orders_ok Try.func121 Try.call121 (by kernel_rfl) 0 rfl rfl _ rfl ?_
  delta ref02_Product at h
  refine Exists.intro none ?_
  refine Exists.intro none ?_
  refine Exists.intro _ (Exists.intro _ (And.intro (Contract.wk (c_math_bits_Mul64 p0 p1) (And.intro rfl (And.intro rfl trivial))) (And.intro rfl ?_)))
  refine Exists.intro none ?_
  subst h
  exact (And.intro rfl (And.intro rfl trivial))
theorem c_ref02_Product (p0 : Int) (p1 : Int) : Contract Try.prog 121 [.int .u64 p0, .int .u64 p1] [] (.agg [.int .u64 (ref02_Product p0 p1).Hi, .int .u64 (ref02_Product p0 p1).Lo]) [] := c_ref02_Product' p0 p1 (ref02_Product p0 p1) rfl

theorem c_ref08_squares (p0 : (List api_Item)) (r : (api_Wide × Bool)) (h : ref08_squares p0 = some r) : Contract Try.prog 69 [.lst 2 false (List.map enc_api_Item p0)] [] (.tup [.agg [.int .u64 r.1.Hi, .int .u64 r.1.Lo], .sb r.2]) [] := by
  refine contract_of_vcs tab_ok orders_ok Try.func69 Try.call69 (by kernel_rfl) 0 rfl rfl _ rfl ?_
  delta ref08_squares at h
  refine Exists.intro none ?_
  refine Exists.intro none ?_
  refine Exists.intro none ?_
  refine Exists.intro [.int .i64 (p0.length : Int)] (And.intro (lenS enc_api_Item p0) ?_)
  replace h : ref08_squares_l2 p0 ([] : List api_Wide) (0:Int) = some r := h
  delta ref08_squares_l2 at h
  obtain ⟨n1, h⟩ := loopS h
  refine Exists.intro ⟨((List api_Wide) × Int) × Nat, fun q => [(.tmp 2, .av (.ptr 0 0)), (.tmp 4, .av (.own 767)), (.tmp 10, .av (.lst 2 false (List.map enc_api_Item p0))), (.tmp 11, .av (.int .i64 (p0.length : Int))), (.tmp 12, .av (.int .i64 q.1.2)), (.box 0, .box [.int .u64 (0:Int), .int .u64 (0:Int)]), (.tok 767, .tok 30 2 (List.map enc_api_Wide q.1.1))], fun q => loopN (fun (s : ((List api_Wide) × Int)) => ref08_squares_l2s p0 s.1 s.2) q.2 q.1 = some r, fun q => q.2⟩ (And.intro (Exists.intro [(767, none)] (Exists.intro [] (Exists.intro ((([] : List api_Wide), (0:Int)), n1) (And.intro h (And.intro rfl (And.intro ff (And.intro rfl (And.intro rfl (And.intro rfl (And.intro rfl (And.intro rfl (And.intro rfl trivial)))))))))))) ?_)
  clear h
  refine fun q h => ?_
  obtain ⟨⟨v2_4, v2_12⟩, n1⟩ := q
  obtain ⟨m1, x1, hm1, h, hl1, hr1⟩ := loopN_step h
  replace hm1 : n1 = m1 + 1 := hm1
  subst hm1
  replace h : ref08_squares_l2s p0 v2_4 v2_12 = some x1 := h
  delta ref08_squares_l2s at h
  refine Exists.intro none ?_
  refine And.intro (fun g1 => ?_) (fun g1 => ?_)
  · skip
    replace h := cT g1 h
    refine Exists.intro none ?_
    obtain ⟨x4_0, e4_0, h⟩ := bS h
    refine Exists.intro [.int .i64 x4_0.T, .int .i64 x4_0.V] (And.intro (idx_map enc_api_Item e4_0) ?_)
    refine Exists.intro none ?_
    obtain ⟨k5_9, h⟩ := ckS h
    refine Exists.intro _ (Exists.intro _ (And.intro (Contract.wk (c_ref01_Abs x4_0.V) (And.intro rfl trivial)) (And.intro rfl ?_)))
    refine Exists.intro _ (Exists.intro _ (And.intro (Contract.wk (c_ref01_Abs x4_0.V) (And.intro rfl trivial)) (And.intro rfl ?_)))
    refine Exists.intro _ (Exists.intro _ (And.intro (Contract.wk (c_ref02_Product (ref01_Abs x4_0.V) (ref01_Abs x4_0.V)) (And.intro rfl (And.intro rfl trivial))) (And.intro rfl ?_)))
    refine And.intro (by have hh := (of_decide_eq_true k5_9); (try simp only [fixRows_length, List.length_map, List.length_append, List.length_take, List.length_drop, List.length_set, List.length_replicate, List.length_cons, List.length_nil] at hh); (try simp only [fixRows_length, List.length_map, List.length_append, List.length_take, List.length_drop, List.length_set, List.length_replicate, List.length_cons, List.length_nil]); omega) ?_
    refine Exists.intro none ?_
    exact Exists.intro [(767, some 1289)] (Exists.intro [] (Exists.intro (((v2_4 ++ [(ref02_Product (ref01_Abs x4_0.V) (ref01_Abs x4_0.V))]), (w64 (v2_12 + (1:Int)))), m1) (And.intro (hl1 ((v2_4 ++ [(ref02_Product (ref01_Abs x4_0.V) (ref01_Abs x4_0.V))]), (w64 (v2_12 + (1:Int)))) (Option.some.inj h).symm) (And.intro (Nat.lt_succ_self m1) (And.intro rfl (And.intro ff (And.intro rfl (And.intro rfl (And.intro rfl (And.intro rfl (And.intro rfl (And.intro (by first | rfl | (simp only [List.map_append, List.map_cons, List.map_nil, List.map_take, List.map_drop, List.map_set, List.map_replicate]; done) | (simp only [List.map_append, List.map_cons, List.map_nil, List.map_take, List.map_drop, List.map_set, List.map_replicate]; rfl) | (simp only [List.map_append, List.map_cons, List.map_nil, List.map_take, List.map_drop, List.map_set, List.map_replicate, eL, enc_api_Command, enc_tape_Tape, enc_ref27_Cursor, enc_api_Chain, enc_api_Sample, enc_chain_source, enc_made_Tape, enc_api_Answer, enc_api_Reply]; done) | (simp only [List.map_append, List.map_cons, List.map_nil, List.map_take, List.map_drop, List.map_set, List.map_replicate, eL, enc_api_Command, enc_tape_Tape, enc_ref27_Cursor, enc_api_Chain, enc_api_Sample, enc_chain_source, enc_made_Tape, enc_api_Answer, enc_api_Reply]; rfl)) trivial))))))))))))
  · skip
    replace h := cF g1 h
    replace h := popS h hr1
    refine Exists.intro none ?_
    obtain ⟨k7_3, h⟩ := ckS h
    obtain ⟨y7_4, e7_4, h⟩ := bS h
    refine Exists.intro [.int .i64 (v2_4.length : Int)] (And.intro (lenS enc_api_Wide v2_4) ?_)
    refine And.intro (of_decide_eq_true k7_3) ?_
    refine Exists.intro _ (Exists.intro _ (And.intro (Contract.wk (c_ref08_total v2_4 (List.replicate ((v2_4.length : Int)).toNat false) y7_4 e7_4) (And.intro ff (And.intro rfl (And.intro ff (And.intro (by first | rfl | (simp only [List.map_append, List.map_cons, List.map_nil, List.map_take, List.map_drop, List.map_set, List.map_replicate]; done) | (simp only [List.map_append, List.map_cons, List.map_nil, List.map_take, List.map_drop, List.map_set, List.map_replicate]; rfl) | (simp only [List.map_append, List.map_cons, List.map_nil, List.map_take, List.map_drop, List.map_set, List.map_replicate, eL, enc_api_Command, enc_tape_Tape, enc_ref27_Cursor, enc_api_Chain, enc_api_Sample, enc_chain_source, enc_made_Tape, enc_api_Answer, enc_api_Reply]; done) | (simp only [List.map_append, List.map_cons, List.map_nil, List.map_take, List.map_drop, List.map_set, List.map_replicate, eL, enc_api_Command, enc_tape_Tape, enc_ref27_Cursor, enc_api_Chain, enc_api_Sample, enc_chain_source, enc_made_Tape, enc_api_Answer, enc_api_Reply]; rfl)) trivial))))) (And.intro rfl ?_)))
    refine Exists.intro none ?_
    replace h := Option.some.inj h
    subst h
    exact (And.intro rfl (And.intro rfl (And.intro rfl trivial)))

theorem c_ref08_Squares (p0 : (List api_Item)) (r : (Int × Bool)) (h : ref08_Squares p0 = some r) : Contract Try.prog 19 [.lst 2 false (List.map enc_api_Item p0)] [] (.tup [.int .i64 r.1, .sb r.2]) [] := by
  refine contract_of_vcs tab_ok orders_ok Try.func19 Try.call19 (by kernel_rfl) 0 rfl rfl _ rfl ?_
  delta ref08_Squares at h
  refine Exists.intro none ?_
  refine Exists.intro none ?_
  obtain ⟨y1_1, e1_1, h⟩ := bS h
  refine Exists.intro _ (Exists.intro _ (And.intro (Contract.wk (c_ref08_squares p0 y1_1 e1_1) (And.intro ff (And.intro rfl trivial))) (And.intro rfl ?_)))
  refine Exists.intro none ?_
  obtain ⟨y2_2, e2_2, h⟩ := bS h
  refine Exists.intro _ (Exists.intro _ (And.intro (Contract.wk (c_ref08_number y1_1.1 (api_Wide.mk (0:Int) (0:Int)) y2_2 e2_2) (And.intro rfl (And.intro rfl (And.intro rfl (And.intro rfl trivial))))) (And.intro rfl ?_)))
  refine Exists.intro none ?_
  refine Exists.intro none ?_
  refine And.intro (fun g1 => ?_) (fun g1 => ?_)
  · skip
    refine And.intro (fun g2 => ?_) (fun g2 => ?_)
    · skip
      replace h := cT (oR g1 g2) h
      refine Exists.intro none ?_
      replace h := Option.some.inj h
      subst h
      exact (And.intro rfl (And.intro rfl trivial))
    · skip
      replace h := cF (oR g1 g2) h
      refine Exists.intro none ?_
      replace h := Option.some.inj h
      subst h
      exact (And.intro rfl (And.intro rfl trivial))
  · skip
    replace h := cT (oL g1) h
    refine Exists.intro none ?_
    replace h := Option.some.inj h
    subst h
    exact (And.intro rfl (And.intro rfl trivial))

theorem c_law08_ExactSums (p0 : (List api_Item)) (r : Bool) (h : law08_ExactSums p0 = some r) : Contract Try.prog 3 [.lst 2 false (List.map enc_api_Item p0)] [] (.sb r) [] := by
  refine contract_of_vcs tab_ok orders_ok Try.func3 Try.call3 (by kernel_rfl) 0 rfl rfl _ rfl ?_
  delta law08_ExactSums at h
  refine Exists.intro none ?_
  refine Exists.intro none ?_
  refine Exists.intro [.int .i64 (p0.length : Int)] (And.intro (lenS enc_api_Item p0) ?_)
  refine And.intro (fun g1 => ?_) (fun g1 => ?_)
  · skip
    replace h := cT g1 h
    refine Exists.intro none ?_
    obtain ⟨y2_0, e2_0, h⟩ := bS h
    refine Exists.intro _ (Exists.intro _ (And.intro (Contract.wk (c_law08_awake y2_0 e2_0) trivial) (And.intro rfl ?_)))
    replace h := Option.some.inj h
    subst h
    exact (And.intro rfl trivial)
  · skip
    replace h := cF g1 h
    refine Exists.intro none ?_
    obtain ⟨y3_1, e3_1, h⟩ := bS h
    refine Exists.intro _ (Exists.intro _ (And.intro (Contract.wk (c_exact_Sum p0 y3_1 e3_1) (And.intro ff (And.intro rfl trivial))) (And.intro rfl ?_)))
    refine Exists.intro none ?_
    obtain ⟨y4_1, e4_1, h⟩ := bS h
    refine Exists.intro _ (Exists.intro _ (And.intro (Contract.wk (c_ref08_Sum p0 y4_1 e4_1) (And.intro ff (And.intro rfl trivial))) (And.intro rfl ?_)))
    refine Exists.intro none ?_
    obtain ⟨y5_1, e5_1, h⟩ := bS h
    refine Exists.intro _ (Exists.intro _ (And.intro (Contract.wk (c_exact_Squares p0 y5_1 e5_1) (And.intro ff (And.intro rfl trivial))) (And.intro rfl ?_)))
    refine Exists.intro none ?_
    obtain ⟨y6_1, e6_1, h⟩ := bS h
    refine Exists.intro _ (Exists.intro _ (And.intro (Contract.wk (c_ref08_Squares p0 y6_1 e6_1) (And.intro ff (And.intro rfl trivial))) (And.intro rfl ?_)))
    refine Exists.intro none ?_
    obtain ⟨y7_26, e7_26, h⟩ := bS h
    refine Exists.intro none ?_
    refine Exists.intro _ (Exists.intro _ (And.intro (Contract.wk (c_exact_Count p0) (And.intro ff (And.intro rfl trivial))) (And.intro rfl ?_)))
    refine Exists.intro [.int .i64 (p0.length : Int)] (And.intro (lenS enc_api_Item p0) ?_)
    refine And.intro (fun g2 => ?_) (fun g2 => ?_)
    · skip
      refine And.intro (fun g3 => ?_) (fun g3 => ?_)
      · skip
        refine And.intro (fun g4 => ?_) (fun g4 => ?_)
        · skip
          refine And.intro (fun g5 => ?_) (fun g5 => ?_)
          · skip
            refine And.intro (fun g6 => ?_) (fun g6 => ?_)
            · skip
              refine Exists.intro _ (Exists.intro _ (And.intro (Contract.wk (c_law08_awake y7_26 (gdT (aR (aR (aR (aR g2 g3) g4) g5) g6) e7_26)) trivial) (And.intro rfl ?_)))
              replace h := Option.some.inj h
              subst h
              exact (And.intro (Eq.symm (aR (aR (aR (aR (aR g2 g3) g4) g5) g6) rfl)) trivial)
            · skip
              replace h := Option.some.inj h
              subst h
              exact (And.intro (Eq.symm (aL (aR (aR (aR (aR g2 g3) g4) g5) g6))) trivial)
          · skip
            replace h := Option.some.inj h
            subst h
            exact (And.intro (Eq.symm (aL (aL (aR (aR (aR g2 g3) g4) g5)))) trivial)
        · skip
          replace h := Option.some.inj h
          subst h
          exact (And.intro (Eq.symm (aL (aL (aL (aR (aR g2 g3) g4))))) trivial)
      · skip
        replace h := Option.some.inj h
        subst h
        exact (And.intro (Eq.symm (aL (aL (aL (aL (aR g2 g3)))))) trivial)
    · skip
      replace h := Option.some.inj h
      subst h
      exact (And.intro (Eq.symm (aL (aL (aL (aL (aL g2)))))) trivial)

end Go.Proofs.Ytbolhhoklijnpaa
