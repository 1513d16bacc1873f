/- The contracts: each function of the program does what its function on plain data says. Made by program. -/
import Derived.Test.YtinffhpeahlhoaaGreatTab
import Derived.Test.YtinffhpeahlhoaaGreatWin
import Derived.Test.YtinffhpeahlhoaaGreatVc
import Derived.Test.YtinffhpeahlhoaaGreatWalk
set_option linter.unusedVariables false
set_option linter.unusedSimpArgs false
set_option linter.unnecessarySimpa false
set_option maxHeartbeats 4000000
set_option maxRecDepth 20000
namespace Go.Proofs.YtinffhpeahlhoaaGreat
open Go.Vc Go.Dec Go.Win

theorem lE {α : Type} {a b : α} (h : a = b := by first | rfl | (simp only [encZ, List.map_append, List.map_cons, List.map_nil, List.map_take, List.map_drop, List.map_set, List.map_replicate]; done) | (simp only [encZ, List.map_append, List.map_cons, List.map_nil, List.map_take, List.map_drop, List.map_set, List.map_replicate]; rfl) | (simp only [encZ, List.map_append, List.map_cons, List.map_nil, List.map_take, List.map_drop, List.map_set, List.map_replicate, eL, enc_api_Recent, enc_api_Count, enc_api_Sum, enc_api_Smooth, enc_api_Spread, enc_api_Poly, enc_api_Halve, enc_api_Extreme, enc_api_Chain, enc_api_Sample, enc_api_Summary, enc_api_Ranks, enc_api_Block, enc_api_Quantile, enc_api_Synopsis, enc_api_Record, enc_chain_source]; done) | (simp only [encZ, List.map_append, List.map_cons, List.map_nil, List.map_take, List.map_drop, List.map_set, List.map_replicate, eL, enc_api_Recent, enc_api_Count, enc_api_Sum, enc_api_Smooth, enc_api_Spread, enc_api_Poly, enc_api_Halve, enc_api_Extreme, enc_api_Chain, enc_api_Sample, enc_api_Summary, enc_api_Ranks, enc_api_Block, enc_api_Quantile, enc_api_Synopsis, enc_api_Record, enc_chain_source]; rfl)) : a = b := h

theorem c_config_in' (p0 : Int) (p1 : Int) (p2 : Int) (r : Bool) (h : config_in p0 p1 p2 = r) : Contract Tryz.prog 128 [.int .i64 p0, .int .i64 p1, .int .i64 p2] [] (.sb r) [] := by
 refine contract_of_vcs tab_ok orders_ok Tryz.func128 Tryz.call128 (by kernel_rfl) 1 rfl rfl _ rfl ?_
 delta config_in at h
 refine eN (eN (eN ?_))
 refine An (fun g1 => ?_) (fun g1 => ?_)
 first | subst h | rw [← h]
 exact (An (Eq.symm (aR g1 rfl)) trivial)
 first | subst h | rw [← h]
 exact (An (Eq.symm (aL g1)) trivial)

theorem c_config_Validate_1_i1' (p0 : Bool) (b1_0 : Bool) (b2 : Int) (r : (Bool × Int)) (h : config_Validate_1_i1 p0 b1_0 b2 = r) : Contract Tryz.prog 127 [.sb p0, .bsl 0 1, .ptr 1 0] [[.ptr 2 0], [.sb b1_0], [.int .i64 b2]] (.tup []) [[.ptr 2 0], [.sb r.1], [.int .i64 r.2]] := by
 refine contract_of_vcs tab_ok orders_ok Tryz.func127 Tryz.call127 (by kernel_rfl) 4 rfl rfl _ rfl ?_
 delta config_Validate_1_i1 at h
 refine eN ?_
 refine eX (some (⟨Unit, fun _ => [(.tmp 1, .av (.bsl 0 1)), (.box 0, .box [.ptr 2 0]), (.box 1, .box [.sb (b1_0 && p0)]), (.box 2, .box [.int .i64 b2])], fun _ => True, fun _ => 0⟩, 1000000)) (An ?_ (fun _ _ => ?_))
 refine An (fun g1 => ?_) (fun g1 => ?_)
 exact eX [] (eX [] (eX () (An trivial (r1 (An (Eq.symm (aR g1 rfl)) (r1 trivial))))))
 exact eX [] (eX [] (eX () (An trivial (r1 (An (Eq.symm (aL g1)) (r1 trivial))))))
 refine eN ?_
 refine eX (Sum.inr 5) ?_
 refine eN ?_
 refine An (fun _ => ?_) (fun g => absurd g (by decide))
 refine eN ?_
 refine An (by first | decide | (simp only [w64]; decide) | omega) ?_
 refine eX [.ptr 2 0] (An ⟨by first | decide | omega, by first | rfl | decide⟩ ?_)
 refine eN (eN (eN ?_))
 refine An (fun g => absurd g (by decide)) (fun _ => ?_)
 first | subst h | rw [← h]
 exact (r2 trivial)

theorem c_config_Validate_1_i2' (p0 : Bool) (b1_0 : Bool) (b2 : Int) (b3 : Int) (r : (Bool × Int × Int)) (h : config_Validate_1_i2 p0 b1_0 b2 b3 = r) : Contract Tryz.prog 127 [.sb p0, .bsl 0 2, .ptr 1 0] [[.ptr 2 0, .ptr 3 0], [.sb b1_0], [.int .i64 b2], [.int .i64 b3]] (.tup []) [[.ptr 2 0, .ptr 3 0], [.sb r.1], [.int .i64 r.2.1], [.int .i64 r.2.2]] := by
 refine contract_of_vcs tab_ok orders_ok Tryz.func127 Tryz.call127 (by kernel_rfl) 5 rfl rfl _ rfl ?_
 delta config_Validate_1_i2 at h
 refine eN ?_
 refine eX (some (⟨Unit, fun _ => [(.tmp 1, .av (.bsl 0 2)), (.box 0, .box [.ptr 2 0, .ptr 3 0]), (.box 1, .box [.sb (b1_0 && p0)]), (.box 2, .box [.int .i64 b2]), (.box 3, .box [.int .i64 b3])], fun _ => True, fun _ => 0⟩, 1000000)) (An ?_ (fun _ _ => ?_))
 refine An (fun g1 => ?_) (fun g1 => ?_)
 exact eX [] (eX [] (eX () (An trivial (r1 (An (Eq.symm (aR g1 rfl)) (r2 trivial))))))
 exact eX [] (eX [] (eX () (An trivial (r1 (An (Eq.symm (aL g1)) (r2 trivial))))))
 refine eN ?_
 refine eX (Sum.inr 5) ?_
 refine eN ?_
 refine An (fun _ => ?_) (fun g => absurd g (by decide))
 refine eN ?_
 refine An (by first | decide | (simp only [w64]; decide) | omega) ?_
 refine eX [.ptr 2 0] (An ⟨by first | decide | omega, by first | rfl | decide⟩ ?_)
 refine eN (eN (eN ?_))
 refine An (fun _ => ?_) (fun g => absurd g (by decide))
 refine eN ?_
 refine An (by first | decide | (simp only [w64]; decide) | omega) ?_
 refine eX [.ptr 3 0] (An ⟨by first | decide | omega, by first | rfl | decide⟩ ?_)
 refine eN (eN (eN ?_))
 refine An (fun g => absurd g (by decide)) (fun _ => ?_)
 first | subst h | rw [← h]
 exact (r3 trivial)

theorem c_config_Validate' (p0 : api_Config) (r : Int) (h : config_Validate p0 = r) : Contract Tryz.prog 41 [.agg (enc_api_Config p0)] [] (.int .i64 r) [] := by
 refine contract_of_vcs tab_ok orders_ok Tryz.func41 Tryz.call41 (by kernel_rfl) 1 rfl rfl _ rfl ?_
 delta config_Validate at h
 refine eN (eN (eN (eN (eN (eN (eN ?_))))))
 refine eX (some (⟨Int × Bool, fun q => [(.tmp 1, .av (.ptr 1 0)), (.tmp 3, .av (.ptr 257 0)), (.tmp 4, .av (.clo 127 [] [.ptr 257 0])), (.tmp 5, .av (.int .i64 (1048576:Int))), (.box 1, .box [.int .i64 p0.Kind, .int .i64 q.1, .int .i64 p0.W, .int .i64 p0.K, .int .i64 p0.Cap, .int .i64 p0.P, .int .i64 p0.Chains, .int .i64 p0.Max]), (.box 257, .box [.sb q.2])], fun q => config_Validate_j5 p0 q.1 q.2 = r, fun _ => 0⟩, 1000000)) (An ?_ ?_)
 refine eN ?_
 refine An (fun g1 => ?_) (fun g1 => ?_)
 replace h := cT g1 h
 refine eN ?_
 refine eX (CK.plain _ _) (An (ContractT.wk (c_config_in' p0.P (0:Int) (4:Int) _ rfl) (r3 trivial)) (An rfl ?_))
 refine eX (CK.gen [(1542, 0, 1), (257, 0, 1), (1, 5, 1)] none _ _ none) (An (ContractT.wk (c_config_Validate_1_i1' (config_in p0.P (0:Int) (4:Int)) true p0.P _ rfl) (r3 trivial)) (An rfl (An rfl ?_)))
 refine eN (eN ?_)
 refine eX (some (⟨Int × Bool, fun q => [(.tmp 1, .av (.ptr 1 0)), (.tmp 3, .av (.ptr 257 0)), (.box 1, .box [.int .i64 p0.Kind, .int .i64 p0.Agg, .int .i64 q.1, .int .i64 p0.K, .int .i64 p0.Cap, .int .i64 (config_Validate_1_i1 (config_in p0.P (0:Int) (4:Int)) true p0.P).2, .int .i64 p0.Chains, .int .i64 p0.Max]), (.box 257, .box [.sb q.2])], fun q => config_Validate_j23_2 p0 (config_Validate_1_i1 (config_in p0.P (0:Int) (4:Int)) true p0.P) q.1 q.2 = r, fun _ => 0⟩, 1000000)) (An ?_ ?_)
 refine An (fun g2 => ?_) (fun g2 => ?_)
 replace h := cT g2 h
 refine eN ?_
 refine eX (some (⟨Unit, fun _ => [(.tmp 1, .av (.ptr 1 0)), (.tmp 3, .av (.ptr 257 0)), (.box 1, .box [.int .i64 p0.Kind, .int .i64 p0.Agg, .int .i64 p0.W, .int .i64 p0.K, .int .i64 p0.Cap, .int .i64 (config_Validate_1_i1 (config_in p0.P (0:Int) (4:Int)) true p0.P).2, .int .i64 p0.Chains, .int .i64 p0.Max]), (.box 257, .box [.sb ((config_Validate_1_i1 (config_in p0.P (0:Int) (4:Int)) true p0.P).1 && (config_in p0.W (1:Int) (0:Int)))])], fun _ => True, fun _ => 0⟩, 1000000)) (An ?_ (fun _ _ => ?_))
 refine An (fun g3 => ?_) (fun g3 => ?_)
 refine eX (CK.plain _ _) (An (ContractT.wk (c_config_in' p0.W (1:Int) (0:Int) _ rfl) (r3 trivial)) (An rfl ?_))
 exact eX [] (eX [] (eX () (An trivial (r8 (r1 (An (Eq.symm (aR g3 rfl)) trivial))))))
 exact eX [] (eX [] (eX () (An trivial (r8 (r1 (An (Eq.symm (aL g3)) trivial))))))
 refine eN ?_
 exact eX [] (eX [] (eX ((0:Int), ((config_Validate_1_i1 (config_in p0.P (0:Int) (4:Int)) true p0.P).1 && (config_in p0.W (1:Int) (0:Int)))) (An h (r8 (r2 trivial)))))
 replace h := cF g2 h
 exact eX [] (eX [] (eX (p0.W, (config_Validate_1_i1 (config_in p0.P (0:Int) (4:Int)) true p0.P).1) (An h (r8 (r2 trivial)))))
 clear h
 refine fun q h => ?_
 obtain ⟨j23_b0x0_2, j23_b1x0_0⟩ := q
 replace h : config_Validate_j23_2 p0 (config_Validate_1_i1 (config_in p0.P (0:Int) (4:Int)) true p0.P) j23_b0x0_2 j23_b1x0_0 = r := h
 delta config_Validate_j23_2 at h
 refine eN (eN ?_)
 refine An (fun g4 => ?_) (fun g4 => ?_)
 refine An (fun g5 => ?_) (fun g5 => ?_)
 replace h := cT (oR g4 g5) h
 refine eN ?_
 first | subst h | rw [← h]
 exact (r1 trivial)
 replace h := cF (oR g4 g5) h
 refine eN ?_
 first | subst h | rw [← h]
 exact (r1 trivial)
 replace h := cT (oL g4) h
 refine eN ?_
 first | subst h | rw [← h]
 exact (r1 trivial)
 replace h := cF g1 h
 refine eN ?_
 refine An (fun g6 => ?_) (fun g6 => ?_)
 replace h := cT g6 h
 refine eN (eN ?_)
 refine eX (some (⟨Int × Bool, fun q => [(.tmp 1, .av (.ptr 1 0)), (.tmp 3, .av (.ptr 257 0)), (.box 1, .box [.int .i64 p0.Kind, .int .i64 p0.Agg, .int .i64 q.1, .int .i64 p0.K, .int .i64 p0.Cap, .int .i64 p0.P, .int .i64 p0.Chains, .int .i64 p0.Max]), (.box 257, .box [.sb q.2])], fun q => config_Validate_j23_3 p0 q.1 q.2 = r, fun _ => 0⟩, 1000000)) (An ?_ ?_)
 refine An (fun g7 => ?_) (fun g7 => ?_)
 replace h := cT g7 h
 refine eN (eN ?_)
 refine eX (CK.plain _ _) (An (ContractT.wk (c_config_in' p0.W (1:Int) (64:Int) _ rfl) (r3 trivial)) (An rfl ?_))
 refine eN ?_
 exact eX [] (eX [] (eX ((0:Int), (config_in p0.W (1:Int) (64:Int))) (An h (r8 (r2 trivial)))))
 replace h := cF g7 h
 exact eX [] (eX [] (eX (p0.W, true) (An h (r8 (r2 trivial)))))
 clear h
 refine fun q h => ?_
 obtain ⟨j23_b0x0_2, j23_b1x0_0⟩ := q
 replace h : config_Validate_j23_3 p0 j23_b0x0_2 j23_b1x0_0 = r := h
 delta config_Validate_j23_3 at h
 refine eN (eN ?_)
 refine An (fun g8 => ?_) (fun g8 => ?_)
 refine An (fun g9 => ?_) (fun g9 => ?_)
 replace h := cT (oR g8 g9) h
 refine eN ?_
 first | subst h | rw [← h]
 exact (r1 trivial)
 replace h := cF (oR g8 g9) h
 refine eN ?_
 first | subst h | rw [← h]
 exact (r1 trivial)
 replace h := cT (oL g8) h
 refine eN ?_
 first | subst h | rw [← h]
 exact (r1 trivial)
 replace h := cF g6 h
 refine eN ?_
 refine An (fun g10 => ?_) (fun g10 => ?_)
 replace h := cT g10 h
 refine eN ?_
 refine eX (some (⟨Unit, fun _ => [(.tmp 1, .av (.ptr 1 0)), (.tmp 3, .av (.ptr 257 0)), (.tmp 5, .av (.int .i64 (1048576:Int))), (.box 1, .box [.int .i64 p0.Kind, .int .i64 p0.Agg, .int .i64 p0.W, .int .i64 p0.K, .int .i64 (config_Validate_1_i2 ((config_in p0.Chains (1:Int) (16:Int)) && (config_in p0.Cap (1:Int) (64:Int))) true p0.Chains p0.Cap).2.2, .int .i64 p0.P, .int .i64 (config_Validate_1_i2 ((config_in p0.Chains (1:Int) (16:Int)) && (config_in p0.Cap (1:Int) (64:Int))) true p0.Chains p0.Cap).2.1, .int .i64 p0.Max]), (.box 257, .box [.sb (config_Validate_1_i2 ((config_in p0.Chains (1:Int) (16:Int)) && (config_in p0.Cap (1:Int) (64:Int))) true p0.Chains p0.Cap).1])], fun _ => True, fun _ => 0⟩, 1000000)) (An ?_ (fun _ _ => ?_))
 refine eX (CK.plain _ _) (An (ContractT.wk (c_config_in' p0.Chains (1:Int) (16:Int) _ rfl) (r3 trivial)) (An rfl ?_))
 refine An (fun g11 => ?_) (fun g11 => ?_)
 refine eX (CK.plain _ _) (An (ContractT.wk (c_config_in' p0.Cap (1:Int) (64:Int) _ rfl) (r3 trivial)) (An rfl ?_))
 refine eX (CK.gen [(2060, 0, 2), (257, 0, 1), (1, 6, 1), (1, 4, 1)] none _ _ none) (An (ContractT.wk (c_config_Validate_1_i2' ((config_in p0.Chains (1:Int) (16:Int)) && (config_in p0.Cap (1:Int) (64:Int))) true p0.Chains p0.Cap _ rfl) (An (Eq.symm (aR g11 rfl)) (r3 trivial))) (An rfl (An rfl ?_)))
 exact eX [] (eX [] (eX () (An trivial (r8 (r3 trivial)))))
 refine eX (CK.gen [(2060, 0, 2), (257, 0, 1), (1, 6, 1), (1, 4, 1)] none _ _ none) (An (ContractT.wk (c_config_Validate_1_i2' ((config_in p0.Chains (1:Int) (16:Int)) && (config_in p0.Cap (1:Int) (64:Int))) true p0.Chains p0.Cap _ rfl) (An (Eq.symm (aL g11)) (r3 trivial))) (An rfl (An rfl ?_)))
 exact eX [] (eX [] (eX () (An trivial (r8 (r3 trivial)))))
 refine eN ?_
 refine eX (some (⟨Int × Bool, fun q => [(.tmp 1, .av (.ptr 1 0)), (.tmp 3, .av (.ptr 257 0)), (.box 1, .box [.int .i64 p0.Kind, .int .i64 p0.Agg, .int .i64 q.1, .int .i64 p0.K, .int .i64 (config_Validate_1_i2 ((config_in p0.Chains (1:Int) (16:Int)) && (config_in p0.Cap (1:Int) (64:Int))) true p0.Chains p0.Cap).2.2, .int .i64 p0.P, .int .i64 (config_Validate_1_i2 ((config_in p0.Chains (1:Int) (16:Int)) && (config_in p0.Cap (1:Int) (64:Int))) true p0.Chains p0.Cap).2.1, .int .i64 p0.Max]), (.box 257, .box [.sb q.2])], fun q => config_Validate_j23_4 p0 (config_Validate_1_i2 ((config_in p0.Chains (1:Int) (16:Int)) && (config_in p0.Cap (1:Int) (64:Int))) true p0.Chains p0.Cap) q.1 q.2 = r, fun _ => 0⟩, 2000000)) (An ?_ ?_)
 refine An (fun g12 => ?_) (fun g12 => ?_)
 replace h := cT g12 h
 refine eN ?_
 refine eX (some (⟨Unit, fun _ => [(.tmp 1, .av (.ptr 1 0)), (.tmp 3, .av (.ptr 257 0)), (.box 1, .box [.int .i64 p0.Kind, .int .i64 p0.Agg, .int .i64 p0.W, .int .i64 p0.K, .int .i64 (config_Validate_1_i2 ((config_in p0.Chains (1:Int) (16:Int)) && (config_in p0.Cap (1:Int) (64:Int))) true p0.Chains p0.Cap).2.2, .int .i64 p0.P, .int .i64 (config_Validate_1_i2 ((config_in p0.Chains (1:Int) (16:Int)) && (config_in p0.Cap (1:Int) (64:Int))) true p0.Chains p0.Cap).2.1, .int .i64 p0.Max]), (.box 257, .box [.sb ((config_Validate_1_i2 ((config_in p0.Chains (1:Int) (16:Int)) && (config_in p0.Cap (1:Int) (64:Int))) true p0.Chains p0.Cap).1 && (config_in p0.W (1:Int) (1048576:Int)))])], fun _ => True, fun _ => 0⟩, 2000000)) (An ?_ (fun _ _ => ?_))
 refine An (fun g13 => ?_) (fun g13 => ?_)
 refine eX (CK.plain _ _) (An (ContractT.wk (c_config_in' p0.W (1:Int) (1048576:Int) _ rfl) (r3 trivial)) (An rfl ?_))
 exact eX [] (eX [] (eX () (An trivial (r8 (r1 (An (Eq.symm (aR g13 rfl)) trivial))))))
 exact eX [] (eX [] (eX () (An trivial (r8 (r1 (An (Eq.symm (aL g13)) trivial))))))
 refine eN ?_
 exact eX [] (eX [] (eX ((0:Int), ((config_Validate_1_i2 ((config_in p0.Chains (1:Int) (16:Int)) && (config_in p0.Cap (1:Int) (64:Int))) true p0.Chains p0.Cap).1 && (config_in p0.W (1:Int) (1048576:Int)))) (An h (r8 (r2 trivial)))))
 replace h := cF g12 h
 exact eX [] (eX [] (eX (p0.W, (config_Validate_1_i2 ((config_in p0.Chains (1:Int) (16:Int)) && (config_in p0.Cap (1:Int) (64:Int))) true p0.Chains p0.Cap).1) (An h (r8 (r2 trivial)))))
 clear h
 refine fun q h => ?_
 obtain ⟨j23_b0x0_2, j23_b1x0_0⟩ := q
 replace h : config_Validate_j23_4 p0 (config_Validate_1_i2 ((config_in p0.Chains (1:Int) (16:Int)) && (config_in p0.Cap (1:Int) (64:Int))) true p0.Chains p0.Cap) j23_b0x0_2 j23_b1x0_0 = r := h
 delta config_Validate_j23_4 at h
 refine eN (eN ?_)
 refine An (fun g14 => ?_) (fun g14 => ?_)
 refine An (fun g15 => ?_) (fun g15 => ?_)
 replace h := cT (oR g14 g15) h
 refine eN ?_
 first | subst h | rw [← h]
 exact (r1 trivial)
 replace h := cF (oR g14 g15) h
 refine eN ?_
 first | subst h | rw [← h]
 exact (r1 trivial)
 replace h := cT (oL g14) h
 refine eN ?_
 first | subst h | rw [← h]
 exact (r1 trivial)
 replace h := cF g10 h
 refine eN ?_
 refine An (fun g16 => ?_) (fun g16 => ?_)
 replace h := cT g16 h
 refine eN ?_
 refine eX (some (⟨Unit, fun _ => [(.tmp 1, .av (.ptr 1 0)), (.tmp 3, .av (.ptr 257 0)), (.box 1, .box [.int .i64 p0.Kind, .int .i64 p0.Agg, .int .i64 p0.W, .int .i64 (config_Validate_1_i2 ((config_in p0.K (1:Int) (64:Int)) && (config_in p0.Cap (2:Int) (65536:Int))) true p0.K p0.Cap).2.1, .int .i64 (config_Validate_1_i2 ((config_in p0.K (1:Int) (64:Int)) && (config_in p0.Cap (2:Int) (65536:Int))) true p0.K p0.Cap).2.2, .int .i64 p0.P, .int .i64 p0.Chains, .int .i64 p0.Max]), (.box 257, .box [.sb (config_Validate_1_i2 ((config_in p0.K (1:Int) (64:Int)) && (config_in p0.Cap (2:Int) (65536:Int))) true p0.K p0.Cap).1])], fun _ => True, fun _ => 0⟩, 1000000)) (An ?_ (fun _ _ => ?_))
 refine eX (CK.plain _ _) (An (ContractT.wk (c_config_in' p0.K (1:Int) (64:Int) _ rfl) (r3 trivial)) (An rfl ?_))
 refine An (fun g17 => ?_) (fun g17 => ?_)
 refine eX (CK.plain _ _) (An (ContractT.wk (c_config_in' p0.Cap (2:Int) (65536:Int) _ rfl) (r3 trivial)) (An rfl ?_))
 refine eX (CK.gen [(2316, 0, 2), (257, 0, 1), (1, 3, 1), (1, 4, 1)] none _ _ none) (An (ContractT.wk (c_config_Validate_1_i2' ((config_in p0.K (1:Int) (64:Int)) && (config_in p0.Cap (2:Int) (65536:Int))) true p0.K p0.Cap _ rfl) (An (Eq.symm (aR g17 rfl)) (r3 trivial))) (An rfl (An rfl ?_)))
 exact eX [] (eX [] (eX () (An trivial (r8 (r2 trivial)))))
 refine eX (CK.gen [(2316, 0, 2), (257, 0, 1), (1, 3, 1), (1, 4, 1)] none _ _ none) (An (ContractT.wk (c_config_Validate_1_i2' ((config_in p0.K (1:Int) (64:Int)) && (config_in p0.Cap (2:Int) (65536:Int))) true p0.K p0.Cap _ rfl) (An (Eq.symm (aL g17)) (r3 trivial))) (An rfl (An rfl ?_)))
 exact eX [] (eX [] (eX () (An trivial (r8 (r2 trivial)))))
 refine eN (eN ?_)
 refine eX (some (⟨Int × Bool, fun q => [(.tmp 1, .av (.ptr 1 0)), (.tmp 3, .av (.ptr 257 0)), (.box 1, .box [.int .i64 p0.Kind, .int .i64 p0.Agg, .int .i64 q.1, .int .i64 (config_Validate_1_i2 ((config_in p0.K (1:Int) (64:Int)) && (config_in p0.Cap (2:Int) (65536:Int))) true p0.K p0.Cap).2.1, .int .i64 (config_Validate_1_i2 ((config_in p0.K (1:Int) (64:Int)) && (config_in p0.Cap (2:Int) (65536:Int))) true p0.K p0.Cap).2.2, .int .i64 p0.P, .int .i64 p0.Chains, .int .i64 p0.Max]), (.box 257, .box [.sb q.2])], fun q => config_Validate_j23_5 p0 (config_Validate_1_i2 ((config_in p0.K (1:Int) (64:Int)) && (config_in p0.Cap (2:Int) (65536:Int))) true p0.K p0.Cap) q.1 q.2 = r, fun _ => 0⟩, 2000000)) (An ?_ ?_)
 refine An (fun g18 => ?_) (fun g18 => ?_)
 replace h := cT g18 h
 refine eN ?_
 refine eX (some (⟨Unit, fun _ => [(.tmp 1, .av (.ptr 1 0)), (.tmp 3, .av (.ptr 257 0)), (.box 1, .box [.int .i64 p0.Kind, .int .i64 p0.Agg, .int .i64 p0.W, .int .i64 (config_Validate_1_i2 ((config_in p0.K (1:Int) (64:Int)) && (config_in p0.Cap (2:Int) (65536:Int))) true p0.K p0.Cap).2.1, .int .i64 (config_Validate_1_i2 ((config_in p0.K (1:Int) (64:Int)) && (config_in p0.Cap (2:Int) (65536:Int))) true p0.K p0.Cap).2.2, .int .i64 p0.P, .int .i64 p0.Chains, .int .i64 p0.Max]), (.box 257, .box [.sb ((config_Validate_1_i2 ((config_in p0.K (1:Int) (64:Int)) && (config_in p0.Cap (2:Int) (65536:Int))) true p0.K p0.Cap).1 && (config_in p0.W (1:Int) (0:Int)))])], fun _ => True, fun _ => 0⟩, 2000000)) (An ?_ (fun _ _ => ?_))
 refine An (fun g19 => ?_) (fun g19 => ?_)
 refine eX (CK.plain _ _) (An (ContractT.wk (c_config_in' p0.W (1:Int) (0:Int) _ rfl) (r3 trivial)) (An rfl ?_))
 exact eX [] (eX [] (eX () (An trivial (r8 (r1 (An (Eq.symm (aR g19 rfl)) trivial))))))
 exact eX [] (eX [] (eX () (An trivial (r8 (r1 (An (Eq.symm (aL g19)) trivial))))))
 refine eN ?_
 exact eX [] (eX [] (eX ((0:Int), ((config_Validate_1_i2 ((config_in p0.K (1:Int) (64:Int)) && (config_in p0.Cap (2:Int) (65536:Int))) true p0.K p0.Cap).1 && (config_in p0.W (1:Int) (0:Int)))) (An h (r8 (r2 trivial)))))
 replace h := cF g18 h
 exact eX [] (eX [] (eX (p0.W, (config_Validate_1_i2 ((config_in p0.K (1:Int) (64:Int)) && (config_in p0.Cap (2:Int) (65536:Int))) true p0.K p0.Cap).1) (An h (r8 (r2 trivial)))))
 clear h
 refine fun q h => ?_
 obtain ⟨j23_b0x0_2, j23_b1x0_0⟩ := q
 replace h : config_Validate_j23_5 p0 (config_Validate_1_i2 ((config_in p0.K (1:Int) (64:Int)) && (config_in p0.Cap (2:Int) (65536:Int))) true p0.K p0.Cap) j23_b0x0_2 j23_b1x0_0 = r := h
 delta config_Validate_j23_5 at h
 refine eN (eN ?_)
 refine An (fun g20 => ?_) (fun g20 => ?_)
 refine An (fun g21 => ?_) (fun g21 => ?_)
 replace h := cT (oR g20 g21) h
 refine eN ?_
 first | subst h | rw [← h]
 exact (r1 trivial)
 replace h := cF (oR g20 g21) h
 refine eN ?_
 first | subst h | rw [← h]
 exact (r1 trivial)
 replace h := cT (oL g20) h
 refine eN ?_
 first | subst h | rw [← h]
 exact (r1 trivial)
 replace h := cF g16 h
 refine eN ?_
 refine An (fun g22 => ?_) (fun g22 => ?_)
 replace h := cT g22 h
 refine eN ?_
 refine eX (CK.plain _ _) (An (ContractT.wk (c_config_in' p0.Max (1:Int) (1024:Int) _ rfl) (r3 trivial)) (An rfl ?_))
 refine eN (eN ?_)
 refine eX (CK.plain _ _) (An (ContractT.wk (c_config_in' p0.K (1:Int) (64:Int) _ rfl) (r3 trivial)) (An rfl ?_))
 refine eX (CK.gen [(3078, 0, 1), (257, 0, 1), (1, 3, 1)] none _ _ none) (An (ContractT.wk (c_config_Validate_1_i1' (config_in p0.K (1:Int) (64:Int)) (config_in p0.Max (1:Int) (1024:Int)) p0.K _ rfl) (r3 trivial)) (An rfl (An rfl ?_)))
 refine eN ?_
 refine eX (CK.plain _ _) (An (ContractT.wk (c_config_in' p0.Cap (1:Int) (65536:Int) _ rfl) (r3 trivial)) (An rfl ?_))
 refine eX (CK.gen [(3334, 0, 1), (257, 0, 1), (1, 4, 1)] none _ _ none) (An (ContractT.wk (c_config_Validate_1_i1' (config_in p0.Cap (1:Int) (65536:Int)) (config_Validate_1_i1 (config_in p0.K (1:Int) (64:Int)) (config_in p0.Max (1:Int) (1024:Int)) p0.K).1 p0.Cap _ rfl) (r3 trivial)) (An rfl (An rfl ?_)))
 refine eN ?_
 refine eX (some (⟨Int × Bool, fun q => [(.tmp 1, .av (.ptr 1 0)), (.tmp 3, .av (.ptr 257 0)), (.box 1, .box [.int .i64 p0.Kind, .int .i64 p0.Agg, .int .i64 q.1, .int .i64 (config_Validate_1_i1 (config_in p0.K (1:Int) (64:Int)) (config_in p0.Max (1:Int) (1024:Int)) p0.K).2, .int .i64 (config_Validate_1_i1 (config_in p0.Cap (1:Int) (65536:Int)) (config_Validate_1_i1 (config_in p0.K (1:Int) (64:Int)) (config_in p0.Max (1:Int) (1024:Int)) p0.K).1 p0.Cap).2, .int .i64 p0.P, .int .i64 p0.Chains, .int .i64 (0:Int)]), (.box 257, .box [.sb q.2])], fun q => config_Validate_j23_6 p0 (config_Validate_1_i1 (config_in p0.K (1:Int) (64:Int)) (config_in p0.Max (1:Int) (1024:Int)) p0.K) (config_Validate_1_i1 (config_in p0.Cap (1:Int) (65536:Int)) (config_Validate_1_i1 (config_in p0.K (1:Int) (64:Int)) (config_in p0.Max (1:Int) (1024:Int)) p0.K).1 p0.Cap) q.1 q.2 = r, fun _ => 0⟩, 1000000)) (An ?_ ?_)
 refine An (fun g23 => ?_) (fun g23 => ?_)
 replace h := cT g23 h
 refine eN ?_
 refine eX (some (⟨Unit, fun _ => [(.tmp 1, .av (.ptr 1 0)), (.tmp 3, .av (.ptr 257 0)), (.box 1, .box [.int .i64 p0.Kind, .int .i64 p0.Agg, .int .i64 p0.W, .int .i64 (config_Validate_1_i1 (config_in p0.K (1:Int) (64:Int)) (config_in p0.Max (1:Int) (1024:Int)) p0.K).2, .int .i64 (config_Validate_1_i1 (config_in p0.Cap (1:Int) (65536:Int)) (config_Validate_1_i1 (config_in p0.K (1:Int) (64:Int)) (config_in p0.Max (1:Int) (1024:Int)) p0.K).1 p0.Cap).2, .int .i64 p0.P, .int .i64 p0.Chains, .int .i64 (0:Int)]), (.box 257, .box [.sb ((config_Validate_1_i1 (config_in p0.Cap (1:Int) (65536:Int)) (config_Validate_1_i1 (config_in p0.K (1:Int) (64:Int)) (config_in p0.Max (1:Int) (1024:Int)) p0.K).1 p0.Cap).1 && (config_in p0.W (1:Int) (1048576:Int)))])], fun _ => True, fun _ => 0⟩, 1000000)) (An ?_ (fun _ _ => ?_))
 refine An (fun g24 => ?_) (fun g24 => ?_)
 refine eX (CK.plain _ _) (An (ContractT.wk (c_config_in' p0.W (1:Int) (1048576:Int) _ rfl) (r3 trivial)) (An rfl ?_))
 exact eX [] (eX [] (eX () (An trivial (r8 (r1 (An (Eq.symm (aR g24 rfl)) trivial))))))
 exact eX [] (eX [] (eX () (An trivial (r8 (r1 (An (Eq.symm (aL g24)) trivial))))))
 refine eN ?_
 exact eX [] (eX [] (eX ((0:Int), ((config_Validate_1_i1 (config_in p0.Cap (1:Int) (65536:Int)) (config_Validate_1_i1 (config_in p0.K (1:Int) (64:Int)) (config_in p0.Max (1:Int) (1024:Int)) p0.K).1 p0.Cap).1 && (config_in p0.W (1:Int) (1048576:Int)))) (An h (r8 (r2 trivial)))))
 replace h := cF g23 h
 exact eX [] (eX [] (eX (p0.W, (config_Validate_1_i1 (config_in p0.Cap (1:Int) (65536:Int)) (config_Validate_1_i1 (config_in p0.K (1:Int) (64:Int)) (config_in p0.Max (1:Int) (1024:Int)) p0.K).1 p0.Cap).1) (An h (r8 (r2 trivial)))))
 clear h
 refine fun q h => ?_
 obtain ⟨j23_b0x0_2, j23_b1x0_0⟩ := q
 replace h : config_Validate_j23_6 p0 (config_Validate_1_i1 (config_in p0.K (1:Int) (64:Int)) (config_in p0.Max (1:Int) (1024:Int)) p0.K) (config_Validate_1_i1 (config_in p0.Cap (1:Int) (65536:Int)) (config_Validate_1_i1 (config_in p0.K (1:Int) (64:Int)) (config_in p0.Max (1:Int) (1024:Int)) p0.K).1 p0.Cap) j23_b0x0_2 j23_b1x0_0 = r := h
 delta config_Validate_j23_6 at h
 refine eN (eN ?_)
 refine An (fun g25 => ?_) (fun g25 => ?_)
 refine An (fun g26 => ?_) (fun g26 => ?_)
 replace h := cT (oR g25 g26) h
 refine eN ?_
 first | subst h | rw [← h]
 exact (r1 trivial)
 replace h := cF (oR g25 g26) h
 refine eN ?_
 first | subst h | rw [← h]
 exact (r1 trivial)
 replace h := cT (oL g25) h
 refine eN ?_
 first | subst h | rw [← h]
 exact (r1 trivial)
 replace h := cF g22 h
 refine eN ?_
 refine An (fun g27 => ?_) (fun g27 => ?_)
 replace h := cT g27 h
 refine eN ?_
 refine eX (CK.plain _ _) (An (ContractT.wk (c_config_in' p0.Agg (1:Int) (4:Int) _ rfl) (r3 trivial)) (An rfl ?_))
 refine eX (CK.gen [(2822, 0, 1), (257, 0, 1), (1, 1, 1)] none _ _ none) (An (ContractT.wk (c_config_Validate_1_i1' (config_in p0.Agg (1:Int) (4:Int)) true p0.Agg _ rfl) (r3 trivial)) (An rfl (An rfl ?_)))
 exact eX [] (eX [] (eX ((config_Validate_1_i1 (config_in p0.Agg (1:Int) (4:Int)) true p0.Agg).2, (config_Validate_1_i1 (config_in p0.Agg (1:Int) (4:Int)) true p0.Agg).1) (An h (r8 (r3 trivial)))))
 replace h := cF g27 h
 refine eN ?_
 refine eX (some (⟨Bool, fun j18_21 => [(.tmp 1, .av (.ptr 1 0)), (.tmp 3, .av (.ptr 257 0)), (.tmp 4, .av (.clo 127 [] [.ptr 257 0])), (.tmp 5, .av (.int .i64 (1048576:Int))), (.tmp 8, .av (.int .i64 p0.Kind)), (.tmp 21, .av (.sb j18_21)), (.box 1, .box (enc_api_Config p0)), (.box 257, .box [.bool true])], fun j18_21 => config_Validate_j18 p0 j18_21 = r, fun _ => 0⟩, 1000000)) (An ?_ ?_)
 refine An (fun g28 => ?_) (fun g28 => ?_)
 replace h := cT g28 h
 exact eX [] (eX [] (eX (p0.Kind == (2:Int)) (An h (r3 (An (Eq.symm g28) (r8 (r1 trivial)))))))
 replace h := cF g28 h
 refine eN (eN ?_)
 refine An (fun g29 => ?_) (fun g29 => ?_)
 replace h := cT g29 h
 exact eX [] (eX [] (eX (p0.Kind == (5:Int)) (An h (r3 (An (Eq.symm g29) (r8 (r1 trivial)))))))
 replace h := cF g29 h
 refine eN ?_
 exact eX [] (eX [] (eX (p0.Kind == (11:Int)) (An h (r12 (r1 trivial)))))
 clear h
 refine fun j18_21 h => ?_
 replace h : config_Validate_j18 p0 j18_21 = r := h
 delta config_Validate_j18 at h
 refine An (fun g30 => ?_) (fun g30 => ?_)
 replace h := cT g30 h
 exact eX [] (eX [] (eX (p0.Agg, true) (An h (r8 (r3 trivial)))))
 replace h := cF g30 h
 refine eN ?_
 refine An (fun g31 => ?_) (fun g31 => ?_)
 replace h := cT g31 h
 refine eN ?_
 refine eX (CK.plain _ _) (An (ContractT.wk (c_config_in' p0.Max (0:Int) (1:Int) _ rfl) (r3 trivial)) (An rfl ?_))
 refine eN (eN ?_)
 refine eX (CK.plain _ _) (An (ContractT.wk (c_config_in' p0.Cap (1:Int) (65536:Int) _ rfl) (r3 trivial)) (An rfl ?_))
 refine eX (CK.gen [(1000773, 0, 1), (257, 0, 1), (1, 4, 1)] none _ _ none) (An (ContractT.wk (c_config_Validate_1_i1' (config_in p0.Cap (1:Int) (65536:Int)) (config_in p0.Max (0:Int) (1:Int)) p0.Cap _ rfl) (r3 trivial)) (An rfl (An rfl ?_)))
 refine eN ?_
 refine eX (some (⟨Int × Bool, fun q => [(.tmp 1, .av (.ptr 1 0)), (.tmp 3, .av (.ptr 257 0)), (.box 1, .box [.int .i64 p0.Kind, .int .i64 p0.Agg, .int .i64 q.1, .int .i64 p0.K, .int .i64 (config_Validate_1_i1 (config_in p0.Cap (1:Int) (65536:Int)) (config_in p0.Max (0:Int) (1:Int)) p0.Cap).2, .int .i64 p0.P, .int .i64 p0.Chains, .int .i64 (0:Int)]), (.box 257, .box [.sb q.2])], fun q => config_Validate_j23_7 p0 (config_Validate_1_i1 (config_in p0.Cap (1:Int) (65536:Int)) (config_in p0.Max (0:Int) (1:Int)) p0.Cap) q.1 q.2 = r, fun _ => 0⟩, 2000000)) (An ?_ ?_)
 refine An (fun g32 => ?_) (fun g32 => ?_)
 replace h := cT g32 h
 refine eN ?_
 refine eX (some (⟨Unit, fun _ => [(.tmp 1, .av (.ptr 1 0)), (.tmp 3, .av (.ptr 257 0)), (.box 1, .box [.int .i64 p0.Kind, .int .i64 p0.Agg, .int .i64 p0.W, .int .i64 p0.K, .int .i64 (config_Validate_1_i1 (config_in p0.Cap (1:Int) (65536:Int)) (config_in p0.Max (0:Int) (1:Int)) p0.Cap).2, .int .i64 p0.P, .int .i64 p0.Chains, .int .i64 (0:Int)]), (.box 257, .box [.sb ((config_Validate_1_i1 (config_in p0.Cap (1:Int) (65536:Int)) (config_in p0.Max (0:Int) (1:Int)) p0.Cap).1 && (config_in p0.W (1:Int) (1048576:Int)))])], fun _ => True, fun _ => 0⟩, 2000000)) (An ?_ (fun _ _ => ?_))
 refine An (fun g33 => ?_) (fun g33 => ?_)
 refine eX (CK.plain _ _) (An (ContractT.wk (c_config_in' p0.W (1:Int) (1048576:Int) _ rfl) (r3 trivial)) (An rfl ?_))
 exact eX [] (eX [] (eX () (An trivial (r8 (r1 (An (Eq.symm (aR g33 rfl)) trivial))))))
 exact eX [] (eX [] (eX () (An trivial (r8 (r1 (An (Eq.symm (aL g33)) trivial))))))
 refine eN ?_
 exact eX [] (eX [] (eX ((0:Int), ((config_Validate_1_i1 (config_in p0.Cap (1:Int) (65536:Int)) (config_in p0.Max (0:Int) (1:Int)) p0.Cap).1 && (config_in p0.W (1:Int) (1048576:Int)))) (An h (r8 (r2 trivial)))))
 replace h := cF g32 h
 exact eX [] (eX [] (eX (p0.W, (config_Validate_1_i1 (config_in p0.Cap (1:Int) (65536:Int)) (config_in p0.Max (0:Int) (1:Int)) p0.Cap).1) (An h (r8 (r2 trivial)))))
 clear h
 refine fun q h => ?_
 obtain ⟨j23_b0x0_2, j23_b1x0_0⟩ := q
 replace h : config_Validate_j23_7 p0 (config_Validate_1_i1 (config_in p0.Cap (1:Int) (65536:Int)) (config_in p0.Max (0:Int) (1:Int)) p0.Cap) j23_b0x0_2 j23_b1x0_0 = r := h
 delta config_Validate_j23_7 at h
 refine eN (eN ?_)
 refine An (fun g34 => ?_) (fun g34 => ?_)
 refine An (fun g35 => ?_) (fun g35 => ?_)
 replace h := cT (oR g34 g35) h
 refine eN ?_
 first | subst h | rw [← h]
 exact (r1 trivial)
 replace h := cF (oR g34 g35) h
 refine eN ?_
 first | subst h | rw [← h]
 exact (r1 trivial)
 replace h := cT (oL g34) h
 refine eN ?_
 first | subst h | rw [← h]
 exact (r1 trivial)
 replace h := cF g31 h
 refine eN ?_
 refine An (fun g36 => ?_) (fun g36 => ?_)
 replace h := cT g36 h
 refine eN ?_
 refine eX (CK.plain _ _) (An (ContractT.wk (c_config_in' p0.Cap (1:Int) (65536:Int) _ rfl) (r3 trivial)) (An rfl ?_))
 refine eX (CK.gen [(1000517, 0, 1), (257, 0, 1), (1, 4, 1)] none _ _ none) (An (ContractT.wk (c_config_Validate_1_i1' (config_in p0.Cap (1:Int) (65536:Int)) true p0.Cap _ rfl) (r3 trivial)) (An rfl (An rfl ?_)))
 refine eN ?_
 refine eX (some (⟨Int × Bool, fun q => [(.tmp 1, .av (.ptr 1 0)), (.tmp 3, .av (.ptr 257 0)), (.box 1, .box [.int .i64 p0.Kind, .int .i64 p0.Agg, .int .i64 q.1, .int .i64 p0.K, .int .i64 (config_Validate_1_i1 (config_in p0.Cap (1:Int) (65536:Int)) true p0.Cap).2, .int .i64 p0.P, .int .i64 p0.Chains, .int .i64 p0.Max]), (.box 257, .box [.sb q.2])], fun q => config_Validate_j23_8 p0 (config_Validate_1_i1 (config_in p0.Cap (1:Int) (65536:Int)) true p0.Cap) q.1 q.2 = r, fun _ => 0⟩, 2000000)) (An ?_ ?_)
 refine An (fun g37 => ?_) (fun g37 => ?_)
 replace h := cT g37 h
 refine eN ?_
 refine eX (some (⟨Unit, fun _ => [(.tmp 1, .av (.ptr 1 0)), (.tmp 3, .av (.ptr 257 0)), (.box 1, .box [.int .i64 p0.Kind, .int .i64 p0.Agg, .int .i64 p0.W, .int .i64 p0.K, .int .i64 (config_Validate_1_i1 (config_in p0.Cap (1:Int) (65536:Int)) true p0.Cap).2, .int .i64 p0.P, .int .i64 p0.Chains, .int .i64 p0.Max]), (.box 257, .box [.sb ((config_Validate_1_i1 (config_in p0.Cap (1:Int) (65536:Int)) true p0.Cap).1 && (config_in p0.W (1:Int) (1048576:Int)))])], fun _ => True, fun _ => 0⟩, 2000000)) (An ?_ (fun _ _ => ?_))
 refine An (fun g38 => ?_) (fun g38 => ?_)
 refine eX (CK.plain _ _) (An (ContractT.wk (c_config_in' p0.W (1:Int) (1048576:Int) _ rfl) (r3 trivial)) (An rfl ?_))
 exact eX [] (eX [] (eX () (An trivial (r8 (r1 (An (Eq.symm (aR g38 rfl)) trivial))))))
 exact eX [] (eX [] (eX () (An trivial (r8 (r1 (An (Eq.symm (aL g38)) trivial))))))
 refine eN ?_
 exact eX [] (eX [] (eX ((0:Int), ((config_Validate_1_i1 (config_in p0.Cap (1:Int) (65536:Int)) true p0.Cap).1 && (config_in p0.W (1:Int) (1048576:Int)))) (An h (r8 (r2 trivial)))))
 replace h := cF g37 h
 exact eX [] (eX [] (eX (p0.W, (config_Validate_1_i1 (config_in p0.Cap (1:Int) (65536:Int)) true p0.Cap).1) (An h (r8 (r2 trivial)))))
 clear h
 refine fun q h => ?_
 obtain ⟨j23_b0x0_2, j23_b1x0_0⟩ := q
 replace h : config_Validate_j23_8 p0 (config_Validate_1_i1 (config_in p0.Cap (1:Int) (65536:Int)) true p0.Cap) j23_b0x0_2 j23_b1x0_0 = r := h
 delta config_Validate_j23_8 at h
 refine eN (eN ?_)
 refine An (fun g39 => ?_) (fun g39 => ?_)
 refine An (fun g40 => ?_) (fun g40 => ?_)
 replace h := cT (oR g39 g40) h
 refine eN ?_
 first | subst h | rw [← h]
 exact (r1 trivial)
 replace h := cF (oR g39 g40) h
 refine eN ?_
 first | subst h | rw [← h]
 exact (r1 trivial)
 replace h := cT (oL g39) h
 refine eN ?_
 first | subst h | rw [← h]
 exact (r1 trivial)
 replace h := cF g36 h
 refine eN ?_
 first | subst h | rw [← h]
 exact (r1 trivial)
 clear h
 refine fun q h => ?_
 obtain ⟨j5_b0x0_1, j5_b1x0_0⟩ := q
 replace h : config_Validate_j5 p0 j5_b0x0_1 j5_b1x0_0 = r := h
 delta config_Validate_j5 at h
 refine eN ?_
 refine eX (CK.plain _ _) (An (ContractT.wk (c_config_in' p0.K (1:Int) (64:Int) _ rfl) (r3 trivial)) (An rfl ?_))
 refine eX (CK.gen [(1000005, 0, 1), (257, 0, 1), (1, 3, 1)] none _ _ none) (An (ContractT.wk (c_config_Validate_1_i1' (config_in p0.K (1:Int) (64:Int)) j5_b1x0_0 p0.K _ rfl) (r3 trivial)) (An rfl (An rfl ?_)))
 refine eN ?_
 refine eX (CK.plain _ _) (An (ContractT.wk (c_config_in' p0.Cap (1:Int) (65536:Int) _ rfl) (r3 trivial)) (An rfl ?_))
 refine eX (CK.gen [(1000261, 0, 1), (257, 0, 1), (1, 4, 1)] none _ _ none) (An (ContractT.wk (c_config_Validate_1_i1' (config_in p0.Cap (1:Int) (65536:Int)) (config_Validate_1_i1 (config_in p0.K (1:Int) (64:Int)) j5_b1x0_0 p0.K).1 p0.Cap _ rfl) (r3 trivial)) (An rfl (An rfl ?_)))
 refine eN ?_
 refine eX (some (⟨Int × Bool, fun q => [(.tmp 1, .av (.ptr 1 0)), (.tmp 3, .av (.ptr 257 0)), (.box 1, .box [.int .i64 p0.Kind, .int .i64 j5_b0x0_1, .int .i64 q.1, .int .i64 (config_Validate_1_i1 (config_in p0.K (1:Int) (64:Int)) j5_b1x0_0 p0.K).2, .int .i64 (config_Validate_1_i1 (config_in p0.Cap (1:Int) (65536:Int)) (config_Validate_1_i1 (config_in p0.K (1:Int) (64:Int)) j5_b1x0_0 p0.K).1 p0.Cap).2, .int .i64 p0.P, .int .i64 p0.Chains, .int .i64 p0.Max]), (.box 257, .box [.sb q.2])], fun q => config_Validate_j23 p0 (config_Validate_1_i1 (config_in p0.K (1:Int) (64:Int)) j5_b1x0_0 p0.K) (config_Validate_1_i1 (config_in p0.Cap (1:Int) (65536:Int)) (config_Validate_1_i1 (config_in p0.K (1:Int) (64:Int)) j5_b1x0_0 p0.K).1 p0.Cap) j5_b0x0_1 q.1 q.2 = r, fun _ => 0⟩, 2000000)) (An ?_ ?_)
 refine An (fun g41 => ?_) (fun g41 => ?_)
 replace h := cT g41 h
 refine eN ?_
 refine eX (some (⟨Unit, fun _ => [(.tmp 1, .av (.ptr 1 0)), (.tmp 3, .av (.ptr 257 0)), (.box 1, .box [.int .i64 p0.Kind, .int .i64 j5_b0x0_1, .int .i64 p0.W, .int .i64 (config_Validate_1_i1 (config_in p0.K (1:Int) (64:Int)) j5_b1x0_0 p0.K).2, .int .i64 (config_Validate_1_i1 (config_in p0.Cap (1:Int) (65536:Int)) (config_Validate_1_i1 (config_in p0.K (1:Int) (64:Int)) j5_b1x0_0 p0.K).1 p0.Cap).2, .int .i64 p0.P, .int .i64 p0.Chains, .int .i64 p0.Max]), (.box 257, .box [.sb ((config_Validate_1_i1 (config_in p0.Cap (1:Int) (65536:Int)) (config_Validate_1_i1 (config_in p0.K (1:Int) (64:Int)) j5_b1x0_0 p0.K).1 p0.Cap).1 && (config_in p0.W (1:Int) (1048576:Int)))])], fun _ => True, fun _ => 0⟩, 2000000)) (An ?_ (fun _ _ => ?_))
 refine An (fun g42 => ?_) (fun g42 => ?_)
 refine eX (CK.plain _ _) (An (ContractT.wk (c_config_in' p0.W (1:Int) (1048576:Int) _ rfl) (r3 trivial)) (An rfl ?_))
 exact eX [] (eX [] (eX () (An trivial (r8 (r1 (An (Eq.symm (aR g42 rfl)) trivial))))))
 exact eX [] (eX [] (eX () (An trivial (r8 (r1 (An (Eq.symm (aL g42)) trivial))))))
 refine eN ?_
 exact eX [] (eX [] (eX ((0:Int), ((config_Validate_1_i1 (config_in p0.Cap (1:Int) (65536:Int)) (config_Validate_1_i1 (config_in p0.K (1:Int) (64:Int)) j5_b1x0_0 p0.K).1 p0.Cap).1 && (config_in p0.W (1:Int) (1048576:Int)))) (An h (r8 (r2 trivial)))))
 replace h := cF g41 h
 exact eX [] (eX [] (eX (p0.W, (config_Validate_1_i1 (config_in p0.Cap (1:Int) (65536:Int)) (config_Validate_1_i1 (config_in p0.K (1:Int) (64:Int)) j5_b1x0_0 p0.K).1 p0.Cap).1) (An h (r8 (r2 trivial)))))
 clear h
 refine fun q h => ?_
 obtain ⟨j23_b0x0_2, j23_b1x0_0⟩ := q
 replace h : config_Validate_j23 p0 (config_Validate_1_i1 (config_in p0.K (1:Int) (64:Int)) j5_b1x0_0 p0.K) (config_Validate_1_i1 (config_in p0.Cap (1:Int) (65536:Int)) (config_Validate_1_i1 (config_in p0.K (1:Int) (64:Int)) j5_b1x0_0 p0.K).1 p0.Cap) j5_b0x0_1 j23_b0x0_2 j23_b1x0_0 = r := h
 delta config_Validate_j23 at h
 refine eN (eN ?_)
 refine An (fun g43 => ?_) (fun g43 => ?_)
 refine An (fun g44 => ?_) (fun g44 => ?_)
 replace h := cT (oR g43 g44) h
 refine eN ?_
 first | subst h | rw [← h]
 exact (r1 trivial)
 replace h := cF (oR g43 g44) h
 refine eN ?_
 first | subst h | rw [← h]
 exact (r1 trivial)
 replace h := cT (oL g43) h
 refine eN ?_
 first | subst h | rw [← h]
 exact (r1 trivial)

theorem c_recent_good' (p0 : Int) (p1 : Int) (p2 : Int) (r : Bool) (h : recent_good p0 p1 p2 = r) : Contract Tryz.prog 129 [.int .i64 p0, .int .i64 p1, .int .i64 p2] [] (.sb r) [] := by
 refine contract_of_vcs tab_ok orders_ok Tryz.func129 Tryz.call129 (by kernel_rfl) 1 rfl rfl _ rfl ?_
 delta recent_good at h
 refine eN (eN (eN ?_))
 refine An (fun g1 => ?_) (fun g1 => ?_)
 refine An (fun g2 => ?_) (fun g2 => ?_)
 refine An (fun g3 => ?_) (fun g3 => ?_)
 refine An (fun g4 => ?_) (fun g4 => ?_)
 refine An (fun g5 => ?_) (fun g5 => ?_)
 first | subst h | rw [← h]
 exact (An (Eq.symm (aR (aR (aR (aR (aR g1 g2) g3) g4) g5) rfl)) trivial)
 first | subst h | rw [← h]
 exact (An (Eq.symm (aL (aR (aR (aR (aR g1 g2) g3) g4) g5))) trivial)
 first | subst h | rw [← h]
 exact (An (Eq.symm (aL (aL (aR (aR (aR g1 g2) g3) g4)))) trivial)
 first | subst h | rw [← h]
 exact (An (Eq.symm (aL (aL (aL (aR (aR g1 g2) g3))))) trivial)
 first | subst h | rw [← h]
 exact (An (Eq.symm (aL (aL (aL (aL (aR g1 g2)))))) trivial)
 first | subst h | rw [← h]
 exact (An (Eq.symm (aL (aL (aL (aL (aL g1)))))) trivial)

theorem c_exact_tick' (p0 : Int) (r : Bool) (h : exact_tick p0 = r) : Contract Tryz.prog 273 [.int .i64 p0] [] (.sb r) [] := by
 refine contract_of_vcs tab_ok orders_ok Tryz.func273 Tryz.call273 (by kernel_rfl) 1 rfl rfl _ rfl ?_
 delta exact_tick at h
 refine eN (eN (eN ?_))
 refine An (fun g1 => ?_) (fun g1 => ?_)
 first | subst h | rw [← h]
 exact (An (Eq.symm (aR g1 rfl)) trivial)
 first | subst h | rw [← h]
 exact (An (Eq.symm (aL g1)) trivial)

theorem c_exact_Valid (p0 : (List api_Item)) (p1 : Int) (r : Bool) (h : exact_Valid p0 p1 = some r) : Contract Tryz.prog 229 [.lst 2 false (List.map enc_api_Item p0), .int .i64 p1] [] (.sb r) [] := by
 refine contract_of_vcs tab_ok orders_ok Tryz.func229 Tryz.call229 (by kernel_rfl) 1 rfl rfl _ rfl ?_
 delta exact_Valid at h
 refine eN (eN ?_)
 refine eX (CK.plain _ _) (An (ContractT.wk (c_exact_tick' p1 _ rfl) (r1 trivial)) (An rfl ?_))
 refine An (fun g1 => ?_) (fun g1 => ?_)
 replace h := cT g1 h
 refine eN ?_
 replace h := oJ h
 first | subst h | rw [← h]
 exact (r1 trivial)
 replace h := cF g1 h
 refine eN ?_
 refine eX [.int .i64 (p0.length : Int)] (An (lenS enc_api_Item p0) ?_)
 replace h : exact_Valid_l3 p0 p1 (0:Int) = some r := h
 delta exact_Valid_l3 at h
 obtain ⟨n1, h⟩ := loopS h
 refine eX (Sum.inl ⟨Int × Nat, fun q => [(.tmp 0, .av (.lst 2 false (List.map enc_api_Item p0))), (.tmp 1, .av (.int .i64 p1)), (.tmp 10, .av (.lst 2 false (List.map enc_api_Item p0))), (.tmp 11, .av (.int .i64 (p0.length : Int))), (.tmp 12, .av (.int .i64 q.1))], fun q => loopN (fun (s : Int) => exact_Valid_l3s p0 p1 s) q.2 q.1 = some r, fun q => q.2⟩) (An (eX [] (eX [] (eX ((0:Int), n1) (An h (r1 (fr (r1 (fr (r2 trivial))))))))) ?_)
 clear h
 refine fun q h => ?_
 obtain ⟨v3_12, n1⟩ := q
 obtain ⟨m1, x1, hm1, h, hl1, hr1⟩ := loopN_step h
 replace hm1 : n1 = m1 + 1 := hm1
 subst hm1
 replace h : exact_Valid_l3s p0 p1 v3_12 = some x1 := h
 delta exact_Valid_l3s at h
 refine eN ?_
 refine An (fun g2 => ?_) (fun g2 => ?_)
 replace h := cT g2 h
 refine eN ?_
 obtain ⟨x5_1, e5_1, h⟩ := bS h
 refine eX [.int .i64 x5_1.T, .int .i64 x5_1.V] (An (idx_map enc_api_Item e5_1) ?_)
 refine eN ?_
 obtain ⟨x6_16, e6_16, h⟩ := bS h
 refine eX (some (⟨Unit, fun _ => [(.tmp 0, .av (.lst 2 false (List.map enc_api_Item p0))), (.tmp 1, .av (.int .i64 p1)), (.tmp 10, .av (.lst 2 false (List.map enc_api_Item p0))), (.tmp 11, .av (.int .i64 (p0.length : Int))), (.tmp 12, .av (.int .i64 v3_12)), (.tmp 40, .av (.sb (((decide (x5_1.T < (0:Int))) || (decide (x5_1.T > p1))) || ((decide (v3_12 > (0:Int))) && (decide (x6_16.T > x5_1.T))))))], fun _ => True, fun _ => 0⟩, 1000000)) (An ?_ (fun _ _ => ?_))
 refine An (fun g3 => ?_) (fun g3 => ?_)
 refine An (fun g4 => ?_) (fun g4 => ?_)
 refine An (fun g5 => ?_) (fun g5 => ?_)
 refine eX [.int .i64 x6_16.T, .int .i64 x6_16.V] (An (idx_map enc_api_Item (gdT (aR (nE (oR g3 g4)) g5) e6_16)) ?_)
 exact eX [] (eX [] (eX () (An trivial (r1 (fr (r1 (fr (r2 (An (Eq.symm (oR (oR g3 g4) (aR g5 rfl))) trivial)))))))))
 exact eX [] (eX [] (eX () (An trivial (r1 (fr (r1 (fr (r2 (An (Eq.symm (oR (oR g3 g4) (aL g5))) trivial)))))))))
 exact eX [] (eX [] (eX () (An trivial (r1 (fr (r1 (fr (r2 (An (Eq.symm (oL (oR g3 g4))) trivial)))))))))
 exact eX [] (eX [] (eX () (An trivial (r1 (fr (r1 (fr (r2 (An (Eq.symm (oL (oL g3))) trivial)))))))))
 refine An (fun g6 => ?_) (fun g6 => ?_)
 replace h := cT g6 h
 refine eN ?_
 replace h := retS h hr1
 first | subst h | rw [← h]
 exact (r1 trivial)
 replace h := cF g6 h
 refine eN ?_
 exact eX [] (eX [] (eX ((w64 (v3_12 + (1:Int))), m1) (An (hl1 (w64 (v3_12 + (1:Int))) (oJ h).symm) (An (Nat.lt_succ_self m1) (r1 (fr (r1 (fr (r2 trivial)))))))))
 replace h := cF g2 h
 replace h := popS h hr1
 refine eN ?_
 replace h := oJ h
 first | subst h | rw [← h]
 exact (r1 trivial)

theorem c_clock_tick' (p0 : Int) (r : Bool) (h : clock_tick p0 = r) : Contract Tryz.prog 244 [.int .i64 p0] [] (.sb r) [] := by
 refine contract_of_vcs tab_ok orders_ok Tryz.func244 Tryz.call244 (by kernel_rfl) 1 rfl rfl _ rfl ?_
 delta clock_tick at h
 refine eN (eN (eN ?_))
 refine An (fun g1 => ?_) (fun g1 => ?_)
 first | subst h | rw [← h]
 exact (An (Eq.symm (aR g1 rfl)) trivial)
 first | subst h | rw [← h]
 exact (An (Eq.symm (aL g1)) trivial)

theorem c_clock_First' (p0 : Int) (p1 : Int) (r : Int) (h : clock_First p0 p1 = r) : Contract Tryz.prog 176 [.int .i64 p0, .int .i64 p1] [] (.int .i64 r) [] := by
 refine contract_of_vcs tab_ok orders_ok Tryz.func176 Tryz.call176 (by kernel_rfl) 1 rfl rfl _ rfl ?_
 delta clock_First at h
 refine eN (eN (eN ?_))
 refine eX (CK.plain _ _) (An (ContractT.wk (c_clock_tick' p0 _ rfl) (r1 trivial)) (An rfl ?_))
 refine An (fun g1 => ?_) (fun g1 => ?_)
 refine An (fun g2 => ?_) (fun g2 => ?_)
 refine An (fun g3 => ?_) (fun g3 => ?_)
 replace h := cT (oR (oR g1 g2) g3) h
 refine eN ?_
 first | subst h | rw [← h]
 exact (r1 trivial)
 replace h := cF (oR (oR g1 g2) g3) h
 refine eN ?_
 first | subst h | rw [← h]
 exact (r1 trivial)
 replace h := cT (oL (oR g1 g2)) h
 refine eN ?_
 first | subst h | rw [← h]
 exact (r1 trivial)
 replace h := cT (oL (oL g1)) h
 refine eN ?_
 first | subst h | rw [← h]
 exact (r1 trivial)

theorem c_clock_Live' (p0 : Int) (p1 : Int) (p2 : Int) (r : Bool) (h : clock_Live p0 p1 p2 = r) : Contract Tryz.prog 178 [.int .i64 p0, .int .i64 p1, .int .i64 p2] [] (.sb r) [] := by
 refine contract_of_vcs tab_ok orders_ok Tryz.func178 Tryz.call178 (by kernel_rfl) 1 rfl rfl _ rfl ?_
 delta clock_Live at h
 refine eN (eN ?_)
 refine eX (CK.plain _ _) (An (ContractT.wk (c_clock_First' p0 p1 _ rfl) (r2 trivial)) (An rfl ?_))
 refine eN (eN ?_)
 refine An (fun g1 => ?_) (fun g1 => ?_)
 refine eX (CK.plain _ _) (An (ContractT.wk (c_clock_tick' p2 _ rfl) (r1 trivial)) (An rfl ?_))
 refine An (fun g2 => ?_) (fun g2 => ?_)
 refine An (fun g3 => ?_) (fun g3 => ?_)
 first | subst h | rw [← h]
 exact (An (Eq.symm (aR (aR (aR g1 g2) g3) rfl)) trivial)
 first | subst h | rw [← h]
 exact (An (Eq.symm (aL (aR (aR g1 g2) g3))) trivial)
 first | subst h | rw [← h]
 exact (An (Eq.symm (aL (aL (aR g1 g2)))) trivial)
 first | subst h | rw [← h]
 exact (An (Eq.symm (aL (aL (aL g1)))) trivial)

theorem c_recent_value' (p0 : Int) (r : Bool) (h : recent_value p0 = r) : Contract Tryz.prog 186 [.int .i64 p0] [] (.sb r) [] := by
 refine contract_of_vcs tab_ok orders_ok Tryz.func186 Tryz.call186 (by kernel_rfl) 1 rfl rfl _ rfl ?_
 delta recent_value at h
 refine eN (eN (eN ?_))
 refine An (fun g1 => ?_) (fun g1 => ?_)
 first | subst h | rw [← h]
 exact (An (Eq.symm (aR g1 rfl)) trivial)
 first | subst h | rw [← h]
 exact (An (Eq.symm (aL g1)) trivial)

theorem c_recent_Validate (p0 : api_Recent) (r : Int) (h : recent_Validate p0 = some r) : Contract Tryz.prog 151 [.agg (enc_api_Recent p0)] [] (.int .i64 r) [] := by
 refine contract_of_vcs tab_ok orders_ok Tryz.func151 Tryz.call151 (by kernel_rfl) 1 rfl rfl _ rfl ?_
 delta recent_Validate at h
 refine eN (eN ?_)
 obtain ⟨y1_21, e1_21, h⟩ := bS h
 refine eN ?_
 refine eX (CK.plain _ _) (An (ContractT.wk (c_recent_good' p0.W p0.Cap p0.Now _ rfl) (r3 trivial)) (An rfl ?_))
 refine An (fun g1 => ?_) (fun g1 => ?_)
 refine eX [.int .i64 (p0.Items.length : Int)] (An (lenS enc_api_Item p0.Items) ?_)
 refine An (fun g2 => ?_) (fun g2 => ?_)
 refine eX (CK.plain _ _) (An (ContractT.wk (c_exact_Valid p0.Items p0.Now y1_21 (gdT (nE (oR g1 g2)) e1_21)) (fr (r1 trivial))) (An rfl ?_))
 refine An (fun g3 => ?_) (fun g3 => ?_)
 replace h := cT (oR (oR g1 g2) g3) h
 refine eN ?_
 replace h := oJ h
 first | subst h | rw [← h]
 exact (r1 trivial)
 replace h := cF (oR (oR g1 g2) g3) h
 refine eN ?_
 refine eX [.int .i64 (p0.Items.length : Int)] (An (lenS enc_api_Item p0.Items) ?_)
 replace h : recent_Validate_l3 p0 (0:Int) = some r := h
 delta recent_Validate_l3 at h
 obtain ⟨n1, h⟩ := loopS h
 refine eX (Sum.inl ⟨Int × Nat, fun q => [(.tmp 1, .av (.ptr 1 0)), (.tmp 30, .av (.lst 2 false (List.map enc_api_Item p0.Items))), (.tmp 31, .av (.int .i64 (p0.Items.length : Int))), (.tmp 32, .av (.int .i64 q.1)), (.box 1, .box (enc_api_Recent p0))], fun q => loopN (fun (s : Int) => recent_Validate_l3s p0 s) q.2 q.1 = some r, fun q => q.2⟩) (An (eX [] (eX [] (eX ((0:Int), n1) (An h (r1 (fr (r5 (fr trivial)))))))) ?_)
 clear h
 refine fun q h => ?_
 obtain ⟨v3_32, n1⟩ := q
 obtain ⟨m1, x1, hm1, h, hl1, hr1⟩ := loopN_step h
 replace hm1 : n1 = m1 + 1 := hm1
 subst hm1
 replace h : recent_Validate_l3s p0 v3_32 = some x1 := h
 delta recent_Validate_l3s at h
 refine eN ?_
 refine An (fun g4 => ?_) (fun g4 => ?_)
 replace h := cT g4 h
 refine eN ?_
 obtain ⟨x5_0, e5_0, h⟩ := bS h
 refine eX [.int .i64 x5_0.T, .int .i64 x5_0.V] (An (idx_map enc_api_Item e5_0) ?_)
 refine eN (eN ?_)
 refine eX (CK.plain _ _) (An (ContractT.wk (c_clock_Live' p0.Now p0.W x5_0.T _ rfl) (r3 trivial)) (An rfl ?_))
 refine An (fun g5 => ?_) (fun g5 => ?_)
 refine eX (CK.plain _ _) (An (ContractT.wk (c_recent_value' x5_0.V _ rfl) (r1 trivial)) (An rfl ?_))
 refine An (fun g6 => ?_) (fun g6 => ?_)
 replace h := cT (oR g5 g6) h
 refine eN ?_
 replace h := retS h hr1
 first | subst h | rw [← h]
 exact (r1 trivial)
 replace h := cF (oR g5 g6) h
 refine eN ?_
 exact eX [] (eX [] (eX ((w64 (v3_32 + (1:Int))), m1) (An (hl1 (w64 (v3_32 + (1:Int))) (oJ h).symm) (An (Nat.lt_succ_self m1) (r1 (fr (r5 (fr trivial))))))))
 replace h := cT (oL g5) h
 refine eN ?_
 replace h := retS h hr1
 first | subst h | rw [← h]
 exact (r1 trivial)
 replace h := cF g4 h
 replace h := popS h hr1
 refine eN ?_
 replace h := oJ h
 first | subst h | rw [← h]
 exact (r1 trivial)
 replace h := cT (oL (oR g1 g2)) h
 refine eN ?_
 replace h := oJ h
 first | subst h | rw [← h]
 exact (r1 trivial)
 replace h := cT (oL (oL g1)) h
 refine eN ?_
 replace h := oJ h
 first | subst h | rw [← h]
 exact (r1 trivial)

theorem c_count_good' (p0 : Int) (p1 : Int) (p2 : Int) (p3 : Int) (r : Bool) (h : count_good p0 p1 p2 p3 = r) : Contract Tryz.prog 130 [.int .i64 p0, .int .i64 p1, .int .i64 p2, .int .i64 p3] [] (.sb r) [] := by
 refine contract_of_vcs tab_ok orders_ok Tryz.func130 Tryz.call130 (by kernel_rfl) 1 rfl rfl _ rfl ?_
 delta count_good at h
 refine eN (eN (eN ?_))
 refine An (fun g1 => ?_) (fun g1 => ?_)
 refine An (fun g2 => ?_) (fun g2 => ?_)
 refine An (fun g3 => ?_) (fun g3 => ?_)
 refine An (fun g4 => ?_) (fun g4 => ?_)
 refine An (fun g5 => ?_) (fun g5 => ?_)
 refine An (fun g6 => ?_) (fun g6 => ?_)
 refine An (fun g7 => ?_) (fun g7 => ?_)
 first | subst h | rw [← h]
 exact (An (Eq.symm (aR (aR (aR (aR (aR (aR (aR g1 g2) g3) g4) g5) g6) g7) rfl)) trivial)
 first | subst h | rw [← h]
 exact (An (Eq.symm (aL (aR (aR (aR (aR (aR (aR g1 g2) g3) g4) g5) g6) g7))) trivial)
 first | subst h | rw [← h]
 exact (An (Eq.symm (aL (aL (aR (aR (aR (aR (aR g1 g2) g3) g4) g5) g6)))) trivial)
 first | subst h | rw [← h]
 exact (An (Eq.symm (aL (aL (aL (aR (aR (aR (aR g1 g2) g3) g4) g5))))) trivial)
 first | subst h | rw [← h]
 exact (An (Eq.symm (aL (aL (aL (aL (aR (aR (aR g1 g2) g3) g4)))))) trivial)
 first | subst h | rw [← h]
 exact (An (Eq.symm (aL (aL (aL (aL (aL (aR (aR g1 g2) g3))))))) trivial)
 first | subst h | rw [← h]
 exact (An (Eq.symm (aL (aL (aL (aL (aL (aL (aR g1 g2)))))))) trivial)
 first | subst h | rw [← h]
 exact (An (Eq.symm (aL (aL (aL (aL (aL (aL (aL g1)))))))) trivial)

theorem c_buckets_tick' (p0 : Int) (r : Bool) (h : buckets_tick p0 = r) : Contract Tryz.prog 274 [.int .i64 p0] [] (.sb r) [] := by
 refine contract_of_vcs tab_ok orders_ok Tryz.func274 Tryz.call274 (by kernel_rfl) 1 rfl rfl _ rfl ?_
 delta buckets_tick at h
 refine eN (eN (eN ?_))
 refine An (fun g1 => ?_) (fun g1 => ?_)
 first | subst h | rw [← h]
 exact (An (Eq.symm (aR g1 rfl)) trivial)
 first | subst h | rw [← h]
 exact (An (Eq.symm (aL g1)) trivial)

theorem c_buckets_level' (p0 : Int) (r : Bool) (h : buckets_level p0 = r) : Contract Tryz.prog 245 [.int .i64 p0] [] (.sb r) [] := by
 refine contract_of_vcs tab_ok orders_ok Tryz.func245 Tryz.call245 (by kernel_rfl) 1 rfl rfl _ rfl ?_
 delta buckets_level at h
 refine eN (eN (eN ?_))
 refine An (fun g1 => ?_) (fun g1 => ?_)
 first | subst h | rw [← h]
 exact (An (Eq.symm (aR g1 rfl)) trivial)
 first | subst h | rw [← h]
 exact (An (Eq.symm (aL g1)) trivial)

theorem c_buckets_Valid (p0 : (List api_Bucket)) (p1 : Int) (r : Bool) (h : buckets_Valid p0 p1 = some r) : Contract Tryz.prog 230 [.lst 2 false (List.map enc_api_Bucket p0), .int .i64 p1] [] (.sb r) [] := by
 refine contract_of_vcs tab_ok orders_ok Tryz.func230 Tryz.call230 (by kernel_rfl) 1 rfl rfl _ rfl ?_
 delta buckets_Valid at h
 refine eN (eN (eN ?_))
 refine An (fun g1 => ?_) (fun g1 => ?_)
 refine An (fun g2 => ?_) (fun g2 => ?_)
 replace h := cT (oR g1 g2) h
 refine eN ?_
 replace h := oJ h
 first | subst h | rw [← h]
 exact (r1 trivial)
 replace h := cF (oR g1 g2) h
 refine eN (eN ?_)
 refine eX [.int .i64 (p0.length : Int)] (An (lenS enc_api_Bucket p0) ?_)
 replace h : buckets_Valid_l3 p0 p1 (0:Int) (0:Int) (0:Int) (0:Int) (0:Int) (0:Int) (0:Int) (0:Int) (0:Int) (0:Int) (0:Int) (0:Int) (0:Int) (0:Int) (0:Int) (0:Int) (0:Int) (0:Int) (0:Int) (0:Int) (0:Int) (0:Int) (0:Int) (0:Int) (0:Int) (0:Int) (0:Int) (0:Int) (0:Int) (0:Int) (0:Int) (0:Int) = some r := h
 delta buckets_Valid_l3 at h
 obtain ⟨n1, h⟩ := loopS h
 refine eX (Sum.inl ⟨(Int × Int × Int × Int × Int × Int × Int × Int × Int × Int × Int × Int × Int × Int × Int × Int × Int × Int × Int × Int × Int × Int × Int × Int × Int × Int × Int × Int × Int × Int × Int × Int) × Nat, fun q => [(.tmp 0, .av (.lst 2 false (List.map enc_api_Bucket p0))), (.tmp 1, .av (.int .i64 p1)), (.tmp 5, .av (.ptr 513 0)), (.tmp 16, .av (.lst 2 false (List.map enc_api_Bucket p0))), (.tmp 17, .av (.int .i64 (p0.length : Int))), (.tmp 18, .av (.int .i64 q.1.1)), (.box 513, .box [.int .i64 q.1.2.1, .int .i64 q.1.2.2.1, .int .i64 q.1.2.2.2.1, .int .i64 q.1.2.2.2.2.1, .int .i64 q.1.2.2.2.2.2.1, .int .i64 q.1.2.2.2.2.2.2.1, .int .i64 q.1.2.2.2.2.2.2.2.1, .int .i64 q.1.2.2.2.2.2.2.2.2.1, .int .i64 q.1.2.2.2.2.2.2.2.2.2.1, .int .i64 q.1.2.2.2.2.2.2.2.2.2.2.1, .int .i64 q.1.2.2.2.2.2.2.2.2.2.2.2.1, .int .i64 q.1.2.2.2.2.2.2.2.2.2.2.2.2.1, .int .i64 q.1.2.2.2.2.2.2.2.2.2.2.2.2.2.1, .int .i64 q.1.2.2.2.2.2.2.2.2.2.2.2.2.2.2.1, .int .i64 q.1.2.2.2.2.2.2.2.2.2.2.2.2.2.2.2.1, .int .i64 q.1.2.2.2.2.2.2.2.2.2.2.2.2.2.2.2.2.1, .int .i64 q.1.2.2.2.2.2.2.2.2.2.2.2.2.2.2.2.2.2.1, .int .i64 q.1.2.2.2.2.2.2.2.2.2.2.2.2.2.2.2.2.2.2.1, .int .i64 q.1.2.2.2.2.2.2.2.2.2.2.2.2.2.2.2.2.2.2.2.1, .int .i64 q.1.2.2.2.2.2.2.2.2.2.2.2.2.2.2.2.2.2.2.2.2.1, .int .i64 q.1.2.2.2.2.2.2.2.2.2.2.2.2.2.2.2.2.2.2.2.2.2.1, .int .i64 q.1.2.2.2.2.2.2.2.2.2.2.2.2.2.2.2.2.2.2.2.2.2.2.1, .int .i64 q.1.2.2.2.2.2.2.2.2.2.2.2.2.2.2.2.2.2.2.2.2.2.2.2.1, .int .i64 q.1.2.2.2.2.2.2.2.2.2.2.2.2.2.2.2.2.2.2.2.2.2.2.2.2.1, .int .i64 q.1.2.2.2.2.2.2.2.2.2.2.2.2.2.2.2.2.2.2.2.2.2.2.2.2.2.1, .int .i64 q.1.2.2.2.2.2.2.2.2.2.2.2.2.2.2.2.2.2.2.2.2.2.2.2.2.2.2.1, .int .i64 q.1.2.2.2.2.2.2.2.2.2.2.2.2.2.2.2.2.2.2.2.2.2.2.2.2.2.2.2.1, .int .i64 q.1.2.2.2.2.2.2.2.2.2.2.2.2.2.2.2.2.2.2.2.2.2.2.2.2.2.2.2.2.1, .int .i64 q.1.2.2.2.2.2.2.2.2.2.2.2.2.2.2.2.2.2.2.2.2.2.2.2.2.2.2.2.2.2.1, .int .i64 q.1.2.2.2.2.2.2.2.2.2.2.2.2.2.2.2.2.2.2.2.2.2.2.2.2.2.2.2.2.2.2.1, .int .i64 q.1.2.2.2.2.2.2.2.2.2.2.2.2.2.2.2.2.2.2.2.2.2.2.2.2.2.2.2.2.2.2.2])], fun q => loopN (fun (s : (Int × Int × Int × Int × Int × Int × Int × Int × Int × Int × Int × Int × Int × Int × Int × Int × Int × Int × Int × Int × Int × Int × Int × Int × Int × Int × Int × Int × Int × Int × Int × Int)) => buckets_Valid_l3s p0 p1 s.1 s.2.1 s.2.2.1 s.2.2.2.1 s.2.2.2.2.1 s.2.2.2.2.2.1 s.2.2.2.2.2.2.1 s.2.2.2.2.2.2.2.1 s.2.2.2.2.2.2.2.2.1 s.2.2.2.2.2.2.2.2.2.1 s.2.2.2.2.2.2.2.2.2.2.1 s.2.2.2.2.2.2.2.2.2.2.2.1 s.2.2.2.2.2.2.2.2.2.2.2.2.1 s.2.2.2.2.2.2.2.2.2.2.2.2.2.1 s.2.2.2.2.2.2.2.2.2.2.2.2.2.2.1 s.2.2.2.2.2.2.2.2.2.2.2.2.2.2.2.1 s.2.2.2.2.2.2.2.2.2.2.2.2.2.2.2.2.1 s.2.2.2.2.2.2.2.2.2.2.2.2.2.2.2.2.2.1 s.2.2.2.2.2.2.2.2.2.2.2.2.2.2.2.2.2.2.1 s.2.2.2.2.2.2.2.2.2.2.2.2.2.2.2.2.2.2.2.1 s.2.2.2.2.2.2.2.2.2.2.2.2.2.2.2.2.2.2.2.2.1 s.2.2.2.2.2.2.2.2.2.2.2.2.2.2.2.2.2.2.2.2.2.1 s.2.2.2.2.2.2.2.2.2.2.2.2.2.2.2.2.2.2.2.2.2.2.1 s.2.2.2.2.2.2.2.2.2.2.2.2.2.2.2.2.2.2.2.2.2.2.2.1 s.2.2.2.2.2.2.2.2.2.2.2.2.2.2.2.2.2.2.2.2.2.2.2.2.1 s.2.2.2.2.2.2.2.2.2.2.2.2.2.2.2.2.2.2.2.2.2.2.2.2.2.1 s.2.2.2.2.2.2.2.2.2.2.2.2.2.2.2.2.2.2.2.2.2.2.2.2.2.2.1 s.2.2.2.2.2.2.2.2.2.2.2.2.2.2.2.2.2.2.2.2.2.2.2.2.2.2.2.1 s.2.2.2.2.2.2.2.2.2.2.2.2.2.2.2.2.2.2.2.2.2.2.2.2.2.2.2.2.1 s.2.2.2.2.2.2.2.2.2.2.2.2.2.2.2.2.2.2.2.2.2.2.2.2.2.2.2.2.2.1 s.2.2.2.2.2.2.2.2.2.2.2.2.2.2.2.2.2.2.2.2.2.2.2.2.2.2.2.2.2.2.1 s.2.2.2.2.2.2.2.2.2.2.2.2.2.2.2.2.2.2.2.2.2.2.2.2.2.2.2.2.2.2.2) q.2 q.1 = some r, fun q => q.2⟩) (An (eX [] (eX [] (eX (((0:Int), (0:Int), (0:Int), (0:Int), (0:Int), (0:Int), (0:Int), (0:Int), (0:Int), (0:Int), (0:Int), (0:Int), (0:Int), (0:Int), (0:Int), (0:Int), (0:Int), (0:Int), (0:Int), (0:Int), (0:Int), (0:Int), (0:Int), (0:Int), (0:Int), (0:Int), (0:Int), (0:Int), (0:Int), (0:Int), (0:Int), (0:Int)), n1) (An h (r1 (fr (r1 (fr (r32 (r1 trivial)))))))))) ?_)
 clear h
 refine fun q h => ?_
 obtain ⟨⟨v3_18, v3_b3x0_0, v3_b3x0_1, v3_b3x0_2, v3_b3x0_3, v3_b3x0_4, v3_b3x0_5, v3_b3x0_6, v3_b3x0_7, v3_b3x0_8, v3_b3x0_9, v3_b3x0_10, v3_b3x0_11, v3_b3x0_12, v3_b3x0_13, v3_b3x0_14, v3_b3x0_15, v3_b3x0_16, v3_b3x0_17, v3_b3x0_18, v3_b3x0_19, v3_b3x0_20, v3_b3x0_21, v3_b3x0_22, v3_b3x0_23, v3_b3x0_24, v3_b3x0_25, v3_b3x0_26, v3_b3x0_27, v3_b3x0_28, v3_b3x0_29, v3_b3x0_30⟩, n1⟩ := q
 obtain ⟨m1, x1, hm1, h, hl1, hr1⟩ := loopN_step h
 replace hm1 : n1 = m1 + 1 := hm1
 subst hm1
 replace h : buckets_Valid_l3s p0 p1 v3_18 v3_b3x0_0 v3_b3x0_1 v3_b3x0_2 v3_b3x0_3 v3_b3x0_4 v3_b3x0_5 v3_b3x0_6 v3_b3x0_7 v3_b3x0_8 v3_b3x0_9 v3_b3x0_10 v3_b3x0_11 v3_b3x0_12 v3_b3x0_13 v3_b3x0_14 v3_b3x0_15 v3_b3x0_16 v3_b3x0_17 v3_b3x0_18 v3_b3x0_19 v3_b3x0_20 v3_b3x0_21 v3_b3x0_22 v3_b3x0_23 v3_b3x0_24 v3_b3x0_25 v3_b3x0_26 v3_b3x0_27 v3_b3x0_28 v3_b3x0_29 v3_b3x0_30 = some x1 := h
 delta buckets_Valid_l3s at h
 refine eN ?_
 refine An (fun g3 => ?_) (fun g3 => ?_)
 replace h := cT g3 h
 refine eN ?_
 obtain ⟨x6_1, e6_1, h⟩ := bS h
 refine eX [.int .i64 x6_1.T, .int .i64 x6_1.Level] (An (idx_map enc_api_Bucket e6_1) ?_)
 refine eN (eN ?_)
 refine eX (CK.plain _ _) (An (ContractT.wk (c_buckets_tick' x6_1.T _ rfl) (r1 trivial)) (An rfl ?_))
 refine An (fun g4 => ?_) (fun g4 => ?_)
 refine eX (CK.plain _ _) (An (ContractT.wk (c_buckets_level' x6_1.Level _ rfl) (r1 trivial)) (An rfl ?_))
 refine An (fun g5 => ?_) (fun g5 => ?_)
 replace h := cT (oR g4 g5) h
 refine eN ?_
 replace h := retS h hr1
 first | subst h | rw [← h]
 exact (r1 trivial)
 replace h := cF (oR g4 g5) h
 refine eN ?_
 obtain ⟨x9_6, e9_6, h⟩ := bS h
 obtain ⟨x9_16, e9_16, h⟩ := bS h
 refine eX (some (⟨Unit, fun _ => [(.tmp 0, .av (.lst 2 false (List.map enc_api_Bucket p0))), (.tmp 1, .av (.int .i64 p1)), (.tmp 5, .av (.ptr 513 0)), (.tmp 7, .av (.ptr 1284 0)), (.tmp 16, .av (.lst 2 false (List.map enc_api_Bucket p0))), (.tmp 17, .av (.int .i64 (p0.length : Int))), (.tmp 18, .av (.int .i64 v3_18)), (.tmp 56, .av (.sb ((decide (v3_18 > (0:Int))) && ((decide (x9_6.T > x6_1.T)) || (decide (x9_16.Level < x6_1.Level)))))), (.box 513, .box [.int .i64 v3_b3x0_0, .int .i64 v3_b3x0_1, .int .i64 v3_b3x0_2, .int .i64 v3_b3x0_3, .int .i64 v3_b3x0_4, .int .i64 v3_b3x0_5, .int .i64 v3_b3x0_6, .int .i64 v3_b3x0_7, .int .i64 v3_b3x0_8, .int .i64 v3_b3x0_9, .int .i64 v3_b3x0_10, .int .i64 v3_b3x0_11, .int .i64 v3_b3x0_12, .int .i64 v3_b3x0_13, .int .i64 v3_b3x0_14, .int .i64 v3_b3x0_15, .int .i64 v3_b3x0_16, .int .i64 v3_b3x0_17, .int .i64 v3_b3x0_18, .int .i64 v3_b3x0_19, .int .i64 v3_b3x0_20, .int .i64 v3_b3x0_21, .int .i64 v3_b3x0_22, .int .i64 v3_b3x0_23, .int .i64 v3_b3x0_24, .int .i64 v3_b3x0_25, .int .i64 v3_b3x0_26, .int .i64 v3_b3x0_27, .int .i64 v3_b3x0_28, .int .i64 v3_b3x0_29, .int .i64 v3_b3x0_30]), (.box 1284, .box [.int .i64 x6_1.T, .int .i64 x6_1.Level])], fun _ => True, fun _ => 0⟩, 1000000)) (An ?_ (fun _ _ => ?_))
 refine An (fun g6 => ?_) (fun g6 => ?_)
 refine eX [.int .i64 x9_6.T, .int .i64 x9_6.Level] (An (idx_map enc_api_Bucket (gdT g6 e9_6)) ?_)
 refine An (fun g7 => ?_) (fun g7 => ?_)
 refine eX [.int .i64 x9_16.T, .int .i64 x9_16.Level] (An (idx_map enc_api_Bucket (gdT (aR g6 (nE g7)) e9_16)) ?_)
 exact eX [] (eX [] (eX () (An trivial (r1 (fr (r1 (fr (r2 (An (Eq.symm (aR g6 (oR g7 rfl))) (r32 (r1 trivial)))))))))))
 exact eX [] (eX [] (eX () (An trivial (r1 (fr (r1 (fr (r2 (An (Eq.symm (aR g6 (oL g7))) (r32 (r1 trivial)))))))))))
 exact eX [] (eX [] (eX () (An trivial (r1 (fr (r1 (fr (r2 (An (Eq.symm (aL g6)) (r32 (r1 trivial)))))))))))
 refine An (fun g8 => ?_) (fun g8 => ?_)
 replace h := cT g8 h
 refine eN ?_
 replace h := retS h hr1
 first | subst h | rw [← h]
 exact (r1 trivial)
 replace h := cF g8 h
 refine eN ?_
 obtain ⟨x11_2, e11_2, h⟩ := bS h
 obtain ⟨x11_3, e11_3, h⟩ := bS h
 obtain ⟨x11_5, e11_5, h⟩ := bS h
 obtain ⟨x11_6, e11_6, h⟩ := bS h
 refine An (idx_lt (eI .u64) e11_2) ?_
 refine eX [.int .i64 x11_3] (An (idx_elt (eI .i64) e11_3) ?_)
 refine An (idx_lt (eI .u64) e11_5) ?_
 refine An (idx_ltN (AV.int .u64) e11_6) ?_
 refine eN ?_
 exact eX [] (eX [] (eX (((w64 (v3_18 + (1:Int))), (if (x6_1.Level).toNat = 0 then (w64 (x11_3 + (1:Int))) else v3_b3x0_0), (if (x6_1.Level).toNat = 1 then (w64 (x11_3 + (1:Int))) else v3_b3x0_1), (if (x6_1.Level).toNat = 2 then (w64 (x11_3 + (1:Int))) else v3_b3x0_2), (if (x6_1.Level).toNat = 3 then (w64 (x11_3 + (1:Int))) else v3_b3x0_3), (if (x6_1.Level).toNat = 4 then (w64 (x11_3 + (1:Int))) else v3_b3x0_4), (if (x6_1.Level).toNat = 5 then (w64 (x11_3 + (1:Int))) else v3_b3x0_5), (if (x6_1.Level).toNat = 6 then (w64 (x11_3 + (1:Int))) else v3_b3x0_6), (if (x6_1.Level).toNat = 7 then (w64 (x11_3 + (1:Int))) else v3_b3x0_7), (if (x6_1.Level).toNat = 8 then (w64 (x11_3 + (1:Int))) else v3_b3x0_8), (if (x6_1.Level).toNat = 9 then (w64 (x11_3 + (1:Int))) else v3_b3x0_9), (if (x6_1.Level).toNat = 10 then (w64 (x11_3 + (1:Int))) else v3_b3x0_10), (if (x6_1.Level).toNat = 11 then (w64 (x11_3 + (1:Int))) else v3_b3x0_11), (if (x6_1.Level).toNat = 12 then (w64 (x11_3 + (1:Int))) else v3_b3x0_12), (if (x6_1.Level).toNat = 13 then (w64 (x11_3 + (1:Int))) else v3_b3x0_13), (if (x6_1.Level).toNat = 14 then (w64 (x11_3 + (1:Int))) else v3_b3x0_14), (if (x6_1.Level).toNat = 15 then (w64 (x11_3 + (1:Int))) else v3_b3x0_15), (if (x6_1.Level).toNat = 16 then (w64 (x11_3 + (1:Int))) else v3_b3x0_16), (if (x6_1.Level).toNat = 17 then (w64 (x11_3 + (1:Int))) else v3_b3x0_17), (if (x6_1.Level).toNat = 18 then (w64 (x11_3 + (1:Int))) else v3_b3x0_18), (if (x6_1.Level).toNat = 19 then (w64 (x11_3 + (1:Int))) else v3_b3x0_19), (if (x6_1.Level).toNat = 20 then (w64 (x11_3 + (1:Int))) else v3_b3x0_20), (if (x6_1.Level).toNat = 21 then (w64 (x11_3 + (1:Int))) else v3_b3x0_21), (if (x6_1.Level).toNat = 22 then (w64 (x11_3 + (1:Int))) else v3_b3x0_22), (if (x6_1.Level).toNat = 23 then (w64 (x11_3 + (1:Int))) else v3_b3x0_23), (if (x6_1.Level).toNat = 24 then (w64 (x11_3 + (1:Int))) else v3_b3x0_24), (if (x6_1.Level).toNat = 25 then (w64 (x11_3 + (1:Int))) else v3_b3x0_25), (if (x6_1.Level).toNat = 26 then (w64 (x11_3 + (1:Int))) else v3_b3x0_26), (if (x6_1.Level).toNat = 27 then (w64 (x11_3 + (1:Int))) else v3_b3x0_27), (if (x6_1.Level).toNat = 28 then (w64 (x11_3 + (1:Int))) else v3_b3x0_28), (if (x6_1.Level).toNat = 29 then (w64 (x11_3 + (1:Int))) else v3_b3x0_29), (if (x6_1.Level).toNat = 30 then (w64 (x11_3 + (1:Int))) else v3_b3x0_30)), m1) (An (hl1 ((w64 (v3_18 + (1:Int))), (if (x6_1.Level).toNat = 0 then (w64 (x11_3 + (1:Int))) else v3_b3x0_0), (if (x6_1.Level).toNat = 1 then (w64 (x11_3 + (1:Int))) else v3_b3x0_1), (if (x6_1.Level).toNat = 2 then (w64 (x11_3 + (1:Int))) else v3_b3x0_2), (if (x6_1.Level).toNat = 3 then (w64 (x11_3 + (1:Int))) else v3_b3x0_3), (if (x6_1.Level).toNat = 4 then (w64 (x11_3 + (1:Int))) else v3_b3x0_4), (if (x6_1.Level).toNat = 5 then (w64 (x11_3 + (1:Int))) else v3_b3x0_5), (if (x6_1.Level).toNat = 6 then (w64 (x11_3 + (1:Int))) else v3_b3x0_6), (if (x6_1.Level).toNat = 7 then (w64 (x11_3 + (1:Int))) else v3_b3x0_7), (if (x6_1.Level).toNat = 8 then (w64 (x11_3 + (1:Int))) else v3_b3x0_8), (if (x6_1.Level).toNat = 9 then (w64 (x11_3 + (1:Int))) else v3_b3x0_9), (if (x6_1.Level).toNat = 10 then (w64 (x11_3 + (1:Int))) else v3_b3x0_10), (if (x6_1.Level).toNat = 11 then (w64 (x11_3 + (1:Int))) else v3_b3x0_11), (if (x6_1.Level).toNat = 12 then (w64 (x11_3 + (1:Int))) else v3_b3x0_12), (if (x6_1.Level).toNat = 13 then (w64 (x11_3 + (1:Int))) else v3_b3x0_13), (if (x6_1.Level).toNat = 14 then (w64 (x11_3 + (1:Int))) else v3_b3x0_14), (if (x6_1.Level).toNat = 15 then (w64 (x11_3 + (1:Int))) else v3_b3x0_15), (if (x6_1.Level).toNat = 16 then (w64 (x11_3 + (1:Int))) else v3_b3x0_16), (if (x6_1.Level).toNat = 17 then (w64 (x11_3 + (1:Int))) else v3_b3x0_17), (if (x6_1.Level).toNat = 18 then (w64 (x11_3 + (1:Int))) else v3_b3x0_18), (if (x6_1.Level).toNat = 19 then (w64 (x11_3 + (1:Int))) else v3_b3x0_19), (if (x6_1.Level).toNat = 20 then (w64 (x11_3 + (1:Int))) else v3_b3x0_20), (if (x6_1.Level).toNat = 21 then (w64 (x11_3 + (1:Int))) else v3_b3x0_21), (if (x6_1.Level).toNat = 22 then (w64 (x11_3 + (1:Int))) else v3_b3x0_22), (if (x6_1.Level).toNat = 23 then (w64 (x11_3 + (1:Int))) else v3_b3x0_23), (if (x6_1.Level).toNat = 24 then (w64 (x11_3 + (1:Int))) else v3_b3x0_24), (if (x6_1.Level).toNat = 25 then (w64 (x11_3 + (1:Int))) else v3_b3x0_25), (if (x6_1.Level).toNat = 26 then (w64 (x11_3 + (1:Int))) else v3_b3x0_26), (if (x6_1.Level).toNat = 27 then (w64 (x11_3 + (1:Int))) else v3_b3x0_27), (if (x6_1.Level).toNat = 28 then (w64 (x11_3 + (1:Int))) else v3_b3x0_28), (if (x6_1.Level).toNat = 29 then (w64 (x11_3 + (1:Int))) else v3_b3x0_29), (if (x6_1.Level).toNat = 30 then (w64 (x11_3 + (1:Int))) else v3_b3x0_30)) (oJ h).symm) (An (Nat.lt_succ_self m1) (r1 (fr (r1 (fr (r32 (r1 trivial))))))))))
 replace h := cT (oL g4) h
 refine eN ?_
 replace h := retS h hr1
 first | subst h | rw [← h]
 exact (r1 trivial)
 replace h := cF g3 h
 replace h := popS h hr1
 refine eN ?_
 refine eX [.int .i64 (p0.length : Int)] (An (lenS enc_api_Bucket p0) ?_)
 refine An (fun g9 => ?_) (fun g9 => ?_)
 replace h := cT g9 h
 refine eN ?_
 replace h := oJ h
 first | subst h | rw [← h]
 exact (r1 trivial)
 replace h := cF g9 h
 refine eN ?_
 obtain ⟨x15_1, e15_1, h⟩ := bS h
 refine eX [.int .i64 x15_1.T, .int .i64 x15_1.Level] (An (idx_map enc_api_Bucket e15_1) ?_)
 refine eN ?_
 replace h : buckets_Valid_l10 p1 v3_b3x0_0 v3_b3x0_1 v3_b3x0_2 v3_b3x0_3 v3_b3x0_4 v3_b3x0_5 v3_b3x0_6 v3_b3x0_7 v3_b3x0_8 v3_b3x0_9 v3_b3x0_10 v3_b3x0_11 v3_b3x0_12 v3_b3x0_13 v3_b3x0_14 v3_b3x0_15 v3_b3x0_16 v3_b3x0_17 v3_b3x0_18 v3_b3x0_19 v3_b3x0_20 v3_b3x0_21 v3_b3x0_22 v3_b3x0_23 v3_b3x0_24 v3_b3x0_25 v3_b3x0_26 v3_b3x0_27 v3_b3x0_28 v3_b3x0_29 v3_b3x0_30 x15_1 (0:Int) = some r := h
 delta buckets_Valid_l10 at h
 obtain ⟨n1, h⟩ := loopS h
 refine eX (Sum.inl ⟨Int × Nat, fun q => [(.tmp 1, .av (.int .i64 p1)), (.tmp 5, .av (.ptr 513 0)), (.tmp 8, .av (.int .i64 x15_1.Level)), (.tmp 9, .av (.int .i64 q.1)), (.box 513, .box [.int .i64 v3_b3x0_0, .int .i64 v3_b3x0_1, .int .i64 v3_b3x0_2, .int .i64 v3_b3x0_3, .int .i64 v3_b3x0_4, .int .i64 v3_b3x0_5, .int .i64 v3_b3x0_6, .int .i64 v3_b3x0_7, .int .i64 v3_b3x0_8, .int .i64 v3_b3x0_9, .int .i64 v3_b3x0_10, .int .i64 v3_b3x0_11, .int .i64 v3_b3x0_12, .int .i64 v3_b3x0_13, .int .i64 v3_b3x0_14, .int .i64 v3_b3x0_15, .int .i64 v3_b3x0_16, .int .i64 v3_b3x0_17, .int .i64 v3_b3x0_18, .int .i64 v3_b3x0_19, .int .i64 v3_b3x0_20, .int .i64 v3_b3x0_21, .int .i64 v3_b3x0_22, .int .i64 v3_b3x0_23, .int .i64 v3_b3x0_24, .int .i64 v3_b3x0_25, .int .i64 v3_b3x0_26, .int .i64 v3_b3x0_27, .int .i64 v3_b3x0_28, .int .i64 v3_b3x0_29, .int .i64 v3_b3x0_30])], fun q => loopN (fun (s : Int) => buckets_Valid_l10s p1 v3_b3x0_0 v3_b3x0_1 v3_b3x0_2 v3_b3x0_3 v3_b3x0_4 v3_b3x0_5 v3_b3x0_6 v3_b3x0_7 v3_b3x0_8 v3_b3x0_9 v3_b3x0_10 v3_b3x0_11 v3_b3x0_12 v3_b3x0_13 v3_b3x0_14 v3_b3x0_15 v3_b3x0_16 v3_b3x0_17 v3_b3x0_18 v3_b3x0_19 v3_b3x0_20 v3_b3x0_21 v3_b3x0_22 v3_b3x0_23 v3_b3x0_24 v3_b3x0_25 v3_b3x0_26 v3_b3x0_27 v3_b3x0_28 v3_b3x0_29 v3_b3x0_30 x15_1 s) q.2 q.1 = some r, fun q => q.2⟩) (An (eX [] (eX [] (eX ((0:Int), n1) (An h (r32 (r3 trivial)))))) ?_)
 clear h
 refine fun q h => ?_
 obtain ⟨v10_9, n1⟩ := q
 obtain ⟨m1, x1, hm1, h, hl1, hr1⟩ := loopN_step h
 replace hm1 : n1 = m1 + 1 := hm1
 subst hm1
 replace h : buckets_Valid_l10s p1 v3_b3x0_0 v3_b3x0_1 v3_b3x0_2 v3_b3x0_3 v3_b3x0_4 v3_b3x0_5 v3_b3x0_6 v3_b3x0_7 v3_b3x0_8 v3_b3x0_9 v3_b3x0_10 v3_b3x0_11 v3_b3x0_12 v3_b3x0_13 v3_b3x0_14 v3_b3x0_15 v3_b3x0_16 v3_b3x0_17 v3_b3x0_18 v3_b3x0_19 v3_b3x0_20 v3_b3x0_21 v3_b3x0_22 v3_b3x0_23 v3_b3x0_24 v3_b3x0_25 v3_b3x0_26 v3_b3x0_27 v3_b3x0_28 v3_b3x0_29 v3_b3x0_30 x15_1 v10_9 = some x1 := h
 delta buckets_Valid_l10s at h
 refine eN ?_
 refine An (fun g10 => ?_) (fun g10 => ?_)
 replace h := cT g10 h
 refine eN ?_
 obtain ⟨x19_1, e19_1, h⟩ := bS h
 obtain ⟨x19_2, e19_2, h⟩ := bS h
 obtain ⟨x19_12, e19_12, h⟩ := bS h
 obtain ⟨x19_13, e19_13, h⟩ := bS h
 refine eX (some (⟨Unit, fun _ => [(.tmp 1, .av (.int .i64 p1)), (.tmp 5, .av (.ptr 513 0)), (.tmp 8, .av (.int .i64 x15_1.Level)), (.tmp 9, .av (.int .i64 v10_9)), (.tmp 93, .av (.sb ((decide (x19_2 > (w64 (p1 + (1:Int))))) || ((decide (v10_9 < x15_1.Level)) && (decide (x19_13 < p1)))))), (.box 513, .box [.int .i64 v3_b3x0_0, .int .i64 v3_b3x0_1, .int .i64 v3_b3x0_2, .int .i64 v3_b3x0_3, .int .i64 v3_b3x0_4, .int .i64 v3_b3x0_5, .int .i64 v3_b3x0_6, .int .i64 v3_b3x0_7, .int .i64 v3_b3x0_8, .int .i64 v3_b3x0_9, .int .i64 v3_b3x0_10, .int .i64 v3_b3x0_11, .int .i64 v3_b3x0_12, .int .i64 v3_b3x0_13, .int .i64 v3_b3x0_14, .int .i64 v3_b3x0_15, .int .i64 v3_b3x0_16, .int .i64 v3_b3x0_17, .int .i64 v3_b3x0_18, .int .i64 v3_b3x0_19, .int .i64 v3_b3x0_20, .int .i64 v3_b3x0_21, .int .i64 v3_b3x0_22, .int .i64 v3_b3x0_23, .int .i64 v3_b3x0_24, .int .i64 v3_b3x0_25, .int .i64 v3_b3x0_26, .int .i64 v3_b3x0_27, .int .i64 v3_b3x0_28, .int .i64 v3_b3x0_29, .int .i64 v3_b3x0_30])], fun _ => True, fun _ => 0⟩, 1000000)) (An ?_ (fun _ _ => ?_))
 refine An (idx_lt (eI .u64) e19_1) ?_
 refine eX [.int .i64 x19_2] (An (idx_elt (eI .i64) e19_2) ?_)
 refine An (fun g11 => ?_) (fun g11 => ?_)
 refine An (fun g12 => ?_) (fun g12 => ?_)
 refine An (idx_lt (eI .u64) (gdT (aR (nE g11) g12) e19_12)) ?_
 refine eX [.int .i64 x19_13] (An (idx_elt (eI .i64) (gdT (aR (nE g11) g12) e19_13)) ?_)
 exact eX [] (eX [] (eX () (An trivial (r4 (An (Eq.symm (oR g11 (aR g12 rfl))) (r24 (r7 trivial)))))))
 exact eX [] (eX [] (eX () (An trivial (r4 (An (Eq.symm (oR g11 (aL g12))) (r24 (r7 trivial)))))))
 exact eX [] (eX [] (eX () (An trivial (r4 (An (Eq.symm (oL g11)) (r24 (r7 trivial)))))))
 refine An (fun g13 => ?_) (fun g13 => ?_)
 replace h := cT g13 h
 refine eN ?_
 replace h := retS h hr1
 first | subst h | rw [← h]
 exact (r1 trivial)
 replace h := cF g13 h
 refine eN ?_
 exact eX [] (eX [] (eX ((w64 (v10_9 + (1:Int))), m1) (An (hl1 (w64 (v10_9 + (1:Int))) (oJ h).symm) (An (Nat.lt_succ_self m1) (r32 (r3 trivial))))))
 replace h := cF g10 h
 replace h := popS h hr1
 refine eN ?_
 replace h := oJ h
 first | subst h | rw [← h]
 exact (r1 trivial)
 replace h := cT (oL g1) h
 refine eN ?_
 replace h := oJ h
 first | subst h | rw [← h]
 exact (r1 trivial)

theorem c_buckets_Total (p0 : (List api_Bucket)) (r : Int) (h : buckets_Total p0 = some r) : Contract Tryz.prog 187 [.lst 2 false (List.map enc_api_Bucket p0)] [] (.int .i64 r) [] := by
 refine contract_of_vcs tab_ok orders_ok Tryz.func187 Tryz.call187 (by kernel_rfl) 1 rfl rfl _ rfl ?_
 delta buckets_Total at h
 refine eN (eN (eN ?_))
 refine eX [.int .i64 (p0.length : Int)] (An (lenS enc_api_Bucket p0) ?_)
 replace h : buckets_Total_l2 p0 (0:Int) (0:Int) = some r := h
 delta buckets_Total_l2 at h
 obtain ⟨n1, h⟩ := loopS h
 refine eX (Sum.inl ⟨(Int × Int) × Nat, fun q => [(.tmp 3, .av (.int .i64 q.1.1)), (.tmp 6, .av (.lst 2 false (List.map enc_api_Bucket p0))), (.tmp 7, .av (.int .i64 (p0.length : Int))), (.tmp 8, .av (.int .i64 q.1.2))], fun q => loopN (fun (s : (Int × Int)) => buckets_Total_l2s p0 s.1 s.2) q.2 q.1 = some r, fun q => q.2⟩) (An (eX [] (eX [] (eX (((0:Int), (0:Int)), n1) (An h (r2 (fr (r2 trivial))))))) ?_)
 clear h
 refine fun q h => ?_
 obtain ⟨⟨v2_3, v2_8⟩, n1⟩ := q
 obtain ⟨m1, x1, hm1, h, hl1, hr1⟩ := loopN_step h
 replace hm1 : n1 = m1 + 1 := hm1
 subst hm1
 replace h : buckets_Total_l2s p0 v2_3 v2_8 = some x1 := h
 delta buckets_Total_l2s at h
 refine eN ?_
 refine An (fun g1 => ?_) (fun g1 => ?_)
 replace h := cT g1 h
 refine eN (eN ?_)
 obtain ⟨x4_0, e4_0, h⟩ := bS h
 refine eX [.int .i64 x4_0.T, .int .i64 x4_0.Level] (An (idx_map enc_api_Bucket e4_0) ?_)
 refine eN ?_
 refine eX (CK.plain _ _) (An (ContractT.wk (c_buckets_level' x4_0.Level _ rfl) (r1 trivial)) (An rfl ?_))
 refine eN ?_
 refine An (fun g2 => ?_) (fun g2 => ?_)
 replace h := cT g2 h
 refine eN ?_
 obtain ⟨k6_4, h⟩ := ckS h
 refine An (oD k6_4) ?_
 refine eN ?_
 exact eX [] (eX [] (eX (((w64 (v2_3 + (ishl .i64 (1:Int) (wu64 x4_0.Level)))), (w64 (v2_8 + (1:Int)))), m1) (An (hl1 ((w64 (v2_3 + (ishl .i64 (1:Int) (wu64 x4_0.Level)))), (w64 (v2_8 + (1:Int)))) (oJ h).symm) (An (Nat.lt_succ_self m1) (r2 (fr (r2 trivial)))))))
 replace h := cF g2 h
 refine eN ?_
 exact eX [] (eX [] (eX ((v2_3, (w64 (v2_8 + (1:Int)))), m1) (An (hl1 (v2_3, (w64 (v2_8 + (1:Int)))) (oJ h).symm) (An (Nat.lt_succ_self m1) (r2 (fr (r2 trivial)))))))
 replace h := cF g1 h
 replace h := popS h hr1
 refine eN ?_
 replace h := oJ h
 first | subst h | rw [← h]
 exact (r1 trivial)

theorem c_count_Validate (p0 : api_Count) (r : Int) (h : count_Validate p0 = some r) : Contract Tryz.prog 152 [.agg (enc_api_Count p0)] [] (.int .i64 r) [] := by
 refine contract_of_vcs tab_ok orders_ok Tryz.func152 Tryz.call152 (by kernel_rfl) 1 rfl rfl _ rfl ?_
 delta count_Validate at h
 refine eN (eN ?_)
 obtain ⟨y1_15, e1_15, h⟩ := bS h
 obtain ⟨y1_21, e1_21, h⟩ := bS h
 refine eN ?_
 refine eX (CK.plain _ _) (An (ContractT.wk (c_count_good' p0.W p0.K p0.Cap p0.Now _ rfl) (r4 trivial)) (An rfl ?_))
 refine An (fun g1 => ?_) (fun g1 => ?_)
 refine eX (CK.plain _ _) (An (ContractT.wk (c_buckets_Valid p0.Buckets p0.K y1_15 (gdT (nE g1) e1_15)) (fr (r1 trivial))) (An rfl ?_))
 refine An (fun g2 => ?_) (fun g2 => ?_)
 refine eX (CK.plain _ _) (An (ContractT.wk (c_buckets_Total p0.Buckets y1_21 (gdT (nE (oR g1 g2)) e1_21)) (fr trivial)) (An rfl ?_))
 refine An (fun g3 => ?_) (fun g3 => ?_)
 replace h := cT (oR (oR g1 g2) g3) h
 refine eN ?_
 replace h := oJ h
 first | subst h | rw [← h]
 exact (r1 trivial)
 replace h := cF (oR (oR g1 g2) g3) h
 refine eN ?_
 refine eX [.int .i64 (p0.Buckets.length : Int)] (An (lenS enc_api_Bucket p0.Buckets) ?_)
 replace h : count_Validate_l3 p0 (0:Int) = some r := h
 delta count_Validate_l3 at h
 obtain ⟨n1, h⟩ := loopS h
 refine eX (Sum.inl ⟨Int × Nat, fun q => [(.tmp 1, .av (.ptr 1 0)), (.tmp 32, .av (.lst 2 false (List.map enc_api_Bucket p0.Buckets))), (.tmp 33, .av (.int .i64 (p0.Buckets.length : Int))), (.tmp 34, .av (.int .i64 q.1)), (.box 1, .box (enc_api_Count p0))], fun q => loopN (fun (s : Int) => count_Validate_l3s p0 s) q.2 q.1 = some r, fun q => q.2⟩) (An (eX [] (eX [] (eX ((0:Int), n1) (An h (r1 (fr (r6 (fr trivial)))))))) ?_)
 clear h
 refine fun q h => ?_
 obtain ⟨v3_34, n1⟩ := q
 obtain ⟨m1, x1, hm1, h, hl1, hr1⟩ := loopN_step h
 replace hm1 : n1 = m1 + 1 := hm1
 subst hm1
 replace h : count_Validate_l3s p0 v3_34 = some x1 := h
 delta count_Validate_l3s at h
 refine eN ?_
 refine An (fun g4 => ?_) (fun g4 => ?_)
 replace h := cT g4 h
 refine eN ?_
 obtain ⟨x5_0, e5_0, h⟩ := bS h
 refine eX [.int .i64 x5_0.T, .int .i64 x5_0.Level] (An (idx_map enc_api_Bucket e5_0) ?_)
 refine eN ?_
 refine eX (CK.plain _ _) (An (ContractT.wk (c_clock_Live' p0.Now p0.W x5_0.T _ rfl) (r3 trivial)) (An rfl ?_))
 refine An (fun g5 => ?_) (fun g5 => ?_)
 replace h := cT g5 h
 refine eN ?_
 replace h := retS h hr1
 first | subst h | rw [← h]
 exact (r1 trivial)
 replace h := cF g5 h
 refine eN ?_
 exact eX [] (eX [] (eX ((w64 (v3_34 + (1:Int))), m1) (An (hl1 (w64 (v3_34 + (1:Int))) (oJ h).symm) (An (Nat.lt_succ_self m1) (r1 (fr (r6 (fr trivial))))))))
 replace h := cF g4 h
 replace h := popS h hr1
 refine eN ?_
 replace h := oJ h
 first | subst h | rw [← h]
 exact (r1 trivial)
 replace h := cT (oL (oR g1 g2)) h
 refine eN ?_
 replace h := oJ h
 first | subst h | rw [← h]
 exact (r1 trivial)
 replace h := cT (oL (oL g1)) h
 refine eN ?_
 replace h := oJ h
 first | subst h | rw [← h]
 exact (r1 trivial)

theorem c_sum_good' (p0 : Int) (p1 : Int) (p2 : Int) (p3 : Int) (p4 : Int) (r : Bool) (h : sum_good p0 p1 p2 p3 p4 = r) : Contract Tryz.prog 131 [.int .i64 p0, .int .i64 p1, .int .i64 p2, .int .i64 p3, .int .i64 p4] [] (.sb r) [] := by
 refine contract_of_vcs tab_ok orders_ok Tryz.func131 Tryz.call131 (by kernel_rfl) 1 rfl rfl _ rfl ?_
 delta sum_good at h
 refine eN (eN (eN ?_))
 refine An (fun g1 => ?_) (fun g1 => ?_)
 refine An (fun g2 => ?_) (fun g2 => ?_)
 refine An (fun g3 => ?_) (fun g3 => ?_)
 refine An (fun g4 => ?_) (fun g4 => ?_)
 refine An (fun g5 => ?_) (fun g5 => ?_)
 refine An (fun g6 => ?_) (fun g6 => ?_)
 refine An (fun g7 => ?_) (fun g7 => ?_)
 refine An (fun g8 => ?_) (fun g8 => ?_)
 refine An (fun g9 => ?_) (fun g9 => ?_)
 first | subst h | rw [← h]
 exact (An (Eq.symm (aR (aR (aR (aR (aR (aR (aR (aR (aR g1 g2) g3) g4) g5) g6) g7) g8) g9) rfl)) trivial)
 first | subst h | rw [← h]
 exact (An (Eq.symm (aL (aR (aR (aR (aR (aR (aR (aR (aR g1 g2) g3) g4) g5) g6) g7) g8) g9))) trivial)
 first | subst h | rw [← h]
 exact (An (Eq.symm (aL (aL (aR (aR (aR (aR (aR (aR (aR g1 g2) g3) g4) g5) g6) g7) g8)))) trivial)
 first | subst h | rw [← h]
 exact (An (Eq.symm (aL (aL (aL (aR (aR (aR (aR (aR (aR g1 g2) g3) g4) g5) g6) g7))))) trivial)
 first | subst h | rw [← h]
 exact (An (Eq.symm (aL (aL (aL (aL (aR (aR (aR (aR (aR g1 g2) g3) g4) g5) g6)))))) trivial)
 first | subst h | rw [← h]
 exact (An (Eq.symm (aL (aL (aL (aL (aL (aR (aR (aR (aR g1 g2) g3) g4) g5))))))) trivial)
 first | subst h | rw [← h]
 exact (An (Eq.symm (aL (aL (aL (aL (aL (aL (aR (aR (aR g1 g2) g3) g4)))))))) trivial)
 first | subst h | rw [← h]
 exact (An (Eq.symm (aL (aL (aL (aL (aL (aL (aL (aR (aR g1 g2) g3))))))))) trivial)
 first | subst h | rw [← h]
 exact (An (Eq.symm (aL (aL (aL (aL (aL (aL (aL (aL (aR g1 g2)))))))))) trivial)
 first | subst h | rw [← h]
 exact (An (Eq.symm (aL (aL (aL (aL (aL (aL (aL (aL (aL g1)))))))))) trivial)

theorem c_sum_Validate (p0 : api_Sum) (r : Int) (h : sum_Validate p0 = some r) : Contract Tryz.prog 153 [.agg (enc_api_Sum p0)] [] (.int .i64 r) [] := by
 refine contract_of_vcs tab_ok orders_ok Tryz.func153 Tryz.call153 (by kernel_rfl) 1 rfl rfl _ rfl ?_
 delta sum_Validate at h
 refine eN (eN ?_)
 obtain ⟨y1_17, e1_17, h⟩ := bS h
 obtain ⟨y1_23, e1_23, h⟩ := bS h
 refine eN ?_
 refine eX (CK.plain _ _) (An (ContractT.wk (c_sum_good' p0.W p0.K p0.Cap p0.Max p0.Now _ rfl) (r5 trivial)) (An rfl ?_))
 refine An (fun g1 => ?_) (fun g1 => ?_)
 refine eX (CK.plain _ _) (An (ContractT.wk (c_buckets_Valid p0.Buckets p0.K y1_17 (gdT (nE g1) e1_17)) (fr (r1 trivial))) (An rfl ?_))
 refine An (fun g2 => ?_) (fun g2 => ?_)
 refine eX (CK.plain _ _) (An (ContractT.wk (c_buckets_Total p0.Buckets y1_23 (gdT (nE (oR g1 g2)) e1_23)) (fr trivial)) (An rfl ?_))
 refine An (fun g3 => ?_) (fun g3 => ?_)
 replace h := cT (oR (oR g1 g2) g3) h
 refine eN ?_
 replace h := oJ h
 first | subst h | rw [← h]
 exact (r1 trivial)
 replace h := cF (oR (oR g1 g2) g3) h
 refine eN ?_
 refine eX [.int .i64 (p0.Buckets.length : Int)] (An (lenS enc_api_Bucket p0.Buckets) ?_)
 replace h : sum_Validate_l3 p0 (0:Int) = some r := h
 delta sum_Validate_l3 at h
 obtain ⟨n1, h⟩ := loopS h
 refine eX (Sum.inl ⟨Int × Nat, fun q => [(.tmp 1, .av (.ptr 1 0)), (.tmp 34, .av (.lst 2 false (List.map enc_api_Bucket p0.Buckets))), (.tmp 35, .av (.int .i64 (p0.Buckets.length : Int))), (.tmp 36, .av (.int .i64 q.1)), (.box 1, .box (enc_api_Sum p0))], fun q => loopN (fun (s : Int) => sum_Validate_l3s p0 s) q.2 q.1 = some r, fun q => q.2⟩) (An (eX [] (eX [] (eX ((0:Int), n1) (An h (r1 (fr (r7 (fr trivial)))))))) ?_)
 clear h
 refine fun q h => ?_
 obtain ⟨v3_36, n1⟩ := q
 obtain ⟨m1, x1, hm1, h, hl1, hr1⟩ := loopN_step h
 replace hm1 : n1 = m1 + 1 := hm1
 subst hm1
 replace h : sum_Validate_l3s p0 v3_36 = some x1 := h
 delta sum_Validate_l3s at h
 refine eN ?_
 refine An (fun g4 => ?_) (fun g4 => ?_)
 replace h := cT g4 h
 refine eN ?_
 obtain ⟨x5_0, e5_0, h⟩ := bS h
 refine eX [.int .i64 x5_0.T, .int .i64 x5_0.Level] (An (idx_map enc_api_Bucket e5_0) ?_)
 refine eN ?_
 refine eX (CK.plain _ _) (An (ContractT.wk (c_clock_Live' p0.Now p0.W x5_0.T _ rfl) (r3 trivial)) (An rfl ?_))
 refine An (fun g5 => ?_) (fun g5 => ?_)
 replace h := cT g5 h
 refine eN ?_
 replace h := retS h hr1
 first | subst h | rw [← h]
 exact (r1 trivial)
 replace h := cF g5 h
 refine eN ?_
 exact eX [] (eX [] (eX ((w64 (v3_36 + (1:Int))), m1) (An (hl1 (w64 (v3_36 + (1:Int))) (oJ h).symm) (An (Nat.lt_succ_self m1) (r1 (fr (r7 (fr trivial))))))))
 replace h := cF g4 h
 replace h := popS h hr1
 refine eN ?_
 replace h := oJ h
 first | subst h | rw [← h]
 exact (r1 trivial)
 replace h := cT (oL (oR g1 g2)) h
 refine eN ?_
 replace h := oJ h
 first | subst h | rw [← h]
 exact (r1 trivial)
 replace h := cT (oL (oL g1)) h
 refine eN ?_
 replace h := oJ h
 first | subst h | rw [← h]
 exact (r1 trivial)

theorem c_marks_Good' (p0 : Int) (p1 : Int) (p2 : Int) (p3 : Int) (r : Bool) (h : marks_Good p0 p1 p2 p3 = r) : Contract Tryz.prog 133 [.int .i64 p0, .int .i64 p1, .int .i64 p2, .int .i64 p3] [] (.sb r) [] := by
 refine contract_of_vcs tab_ok orders_ok Tryz.func133 Tryz.call133 (by kernel_rfl) 1 rfl rfl _ rfl ?_
 delta marks_Good at h
 refine eN (eN (eN ?_))
 refine An (fun g1 => ?_) (fun g1 => ?_)
 refine An (fun g2 => ?_) (fun g2 => ?_)
 refine An (fun g3 => ?_) (fun g3 => ?_)
 refine An (fun g4 => ?_) (fun g4 => ?_)
 refine An (fun g5 => ?_) (fun g5 => ?_)
 refine An (fun g6 => ?_) (fun g6 => ?_)
 refine An (fun g7 => ?_) (fun g7 => ?_)
 first | subst h | rw [← h]
 exact (An (Eq.symm (aR (aR (aR (aR (aR (aR (aR g1 g2) g3) g4) g5) g6) g7) rfl)) trivial)
 first | subst h | rw [← h]
 exact (An (Eq.symm (aL (aR (aR (aR (aR (aR (aR g1 g2) g3) g4) g5) g6) g7))) trivial)
 first | subst h | rw [← h]
 exact (An (Eq.symm (aL (aL (aR (aR (aR (aR (aR g1 g2) g3) g4) g5) g6)))) trivial)
 first | subst h | rw [← h]
 exact (An (Eq.symm (aL (aL (aL (aR (aR (aR (aR g1 g2) g3) g4) g5))))) trivial)
 first | subst h | rw [← h]
 exact (An (Eq.symm (aL (aL (aL (aL (aR (aR (aR g1 g2) g3) g4)))))) trivial)
 first | subst h | rw [← h]
 exact (An (Eq.symm (aL (aL (aL (aL (aL (aR (aR g1 g2) g3))))))) trivial)
 first | subst h | rw [← h]
 exact (An (Eq.symm (aL (aL (aL (aL (aL (aL (aR g1 g2)))))))) trivial)
 first | subst h | rw [← h]
 exact (An (Eq.symm (aL (aL (aL (aL (aL (aL (aL g1)))))))) trivial)

theorem c_smooth_good' (p0 : Int) (p1 : Int) (p2 : Int) (p3 : Int) (p4 : Int) (r : Bool) (h : smooth_good p0 p1 p2 p3 p4 = r) : Contract Tryz.prog 132 [.int .i64 p0, .int .i64 p1, .int .i64 p2, .int .i64 p3, .int .i64 p4] [] (.sb r) [] := by
 refine contract_of_vcs tab_ok orders_ok Tryz.func132 Tryz.call132 (by kernel_rfl) 1 rfl rfl _ rfl ?_
 delta smooth_good at h
 refine eN (eN (eN ?_))
 refine An (fun g1 => ?_) (fun g1 => ?_)
 refine An (fun g2 => ?_) (fun g2 => ?_)
 refine eX (CK.plain _ _) (An (ContractT.wk (c_marks_Good' p1 p2 p3 p4 _ rfl) (r4 trivial)) (An rfl ?_))
 first | subst h | rw [← h]
 exact (An (Eq.symm (aR (aR g1 g2) rfl)) trivial)
 first | subst h | rw [← h]
 exact (An (Eq.symm (aL (aR g1 g2))) trivial)
 first | subst h | rw [← h]
 exact (An (Eq.symm (aL (aL g1))) trivial)

theorem c_smooth_least' (p0 : Int) (r : Int) (h : smooth_least p0 = r) : Contract Tryz.prog 190 [.int .i64 p0] [] (.int .i64 r) [] := by
 refine contract_of_vcs tab_ok orders_ok Tryz.func190 Tryz.call190 (by kernel_rfl) 1 rfl rfl _ rfl ?_
 delta smooth_least at h
 refine eN (eN (eN ?_))
 refine An (fun g1 => ?_) (fun g1 => ?_)
 refine An (fun g2 => ?_) (fun g2 => ?_)
 replace h := cT (oR g1 g2) h
 refine eN ?_
 first | subst h | rw [← h]
 exact (r1 trivial)
 replace h := cF (oR g1 g2) h
 refine eN ?_
 first | subst h | rw [← h]
 exact (r1 trivial)
 replace h := cT (oL g1) h
 refine eN ?_
 first | subst h | rw [← h]
 exact (r1 trivial)

theorem c_marks_fits' (p0 : Int) (p1 : Int) (p2 : Int) (p3 : Int) (p4 : Int) (r : Bool) (h : marks_fits p0 p1 p2 p3 p4 = r) : Contract Tryz.prog 275 [.int .i64 p0, .int .i64 p1, .int .i64 p2, .int .i64 p3, .int .i64 p4] [] (.sb r) [] := by
 refine contract_of_vcs tab_ok orders_ok Tryz.func275 Tryz.call275 (by kernel_rfl) 1 rfl rfl _ rfl ?_
 delta marks_fits at h
 refine eN (eN (eN ?_))
 refine An (fun g1 => ?_) (fun g1 => ?_)
 refine An (fun g2 => ?_) (fun g2 => ?_)
 refine An (fun g3 => ?_) (fun g3 => ?_)
 refine An (fun g4 => ?_) (fun g4 => ?_)
 first | subst h | rw [← h]
 exact (An (Eq.symm (aR (aR (aR (aR g1 g2) g3) g4) rfl)) trivial)
 first | subst h | rw [← h]
 exact (An (Eq.symm (aL (aR (aR (aR g1 g2) g3) g4))) trivial)
 first | subst h | rw [← h]
 exact (An (Eq.symm (aL (aL (aR (aR g1 g2) g3)))) trivial)
 first | subst h | rw [← h]
 exact (An (Eq.symm (aL (aL (aL (aR g1 g2))))) trivial)
 first | subst h | rw [← h]
 exact (An (Eq.symm (aL (aL (aL (aL g1))))) trivial)

theorem c_marks_Valid (p0 : (List api_Mark)) (p1 : Int) (p2 : Int) (p3 : Int) (p4 : Int) (p5 : Int) (r : Bool) (h : marks_Valid p0 p1 p2 p3 p4 p5 = some r) : Contract Tryz.prog 231 [.lst 7 false (List.map enc_api_Mark p0), .int .i64 p1, .int .i64 p2, .int .i64 p3, .int .i64 p4, .int .i64 p5] [] (.sb r) [] := by
 refine contract_of_vcs tab_ok orders_ok Tryz.func231 Tryz.call231 (by kernel_rfl) 1 rfl rfl _ rfl ?_
 delta marks_Valid at h
 refine eN (eN (eN ?_))
 refine An (fun g1 => ?_) (fun g1 => ?_)
 refine An (fun g2 => ?_) (fun g2 => ?_)
 replace h := cT (oR g1 g2) h
 refine eN ?_
 replace h := oJ h
 first | subst h | rw [← h]
 exact (r1 trivial)
 replace h := cF (oR g1 g2) h
 refine eN ?_
 refine eX [.int .i64 (p0.length : Int)] (An (lenS enc_api_Mark p0) ?_)
 replace h : marks_Valid_l3 p0 p1 p2 p3 p4 p5 (0:Int) = some r := h
 delta marks_Valid_l3 at h
 obtain ⟨n1, h⟩ := loopS h
 refine eX (Sum.inl ⟨Int × Nat, fun q => [(.tmp 0, .av (.lst 7 false (List.map enc_api_Mark p0))), (.tmp 1, .av (.int .i64 p1)), (.tmp 2, .av (.int .i64 p2)), (.tmp 3, .av (.int .i64 p3)), (.tmp 4, .av (.int .i64 p4)), (.tmp 5, .av (.int .i64 p5)), (.tmp 23, .av (.lst 7 false (List.map enc_api_Mark p0))), (.tmp 24, .av (.int .i64 (p0.length : Int))), (.tmp 25, .av (.int .i64 q.1))], fun q => loopN (fun (s : Int) => marks_Valid_l3s p0 p1 p2 p3 p4 p5 s) q.2 q.1 = some r, fun q => q.2⟩) (An (eX [] (eX [] (eX ((0:Int), n1) (An h (r1 (fr (r5 (fr (r2 trivial))))))))) ?_)
 clear h
 refine fun q h => ?_
 obtain ⟨v3_25, n1⟩ := q
 obtain ⟨m1, x1, hm1, h, hl1, hr1⟩ := loopN_step h
 replace hm1 : n1 = m1 + 1 := hm1
 subst hm1
 replace h : marks_Valid_l3s p0 p1 p2 p3 p4 p5 v3_25 = some x1 := h
 delta marks_Valid_l3s at h
 refine eN ?_
 refine An (fun g3 => ?_) (fun g3 => ?_)
 replace h := cT g3 h
 refine eN (eN ?_)
 obtain ⟨x5_1, e5_1, h⟩ := bS h
 refine eX (enc_api_Mark x5_1) (An (idx_map enc_api_Mark e5_1) ?_)
 refine eN (eN ?_)
 refine An (fun g4 => ?_) (fun g4 => ?_)
 refine An (fun g5 => ?_) (fun g5 => ?_)
 refine An (fun g6 => ?_) (fun g6 => ?_)
 refine An (fun g7 => ?_) (fun g7 => ?_)
 refine An (fun g8 => ?_) (fun g8 => ?_)
 refine An (fun g9 => ?_) (fun g9 => ?_)
 replace h := cT (oR (oR (oR (oR (oR g4 g5) g6) g7) g8) g9) h
 refine eN ?_
 replace h := retS h hr1
 first | subst h | rw [← h]
 exact (r1 trivial)
 replace h := cF (oR (oR (oR (oR (oR g4 g5) g6) g7) g8) g9) h
 refine eN (eN ?_)
 refine An (fun g10 => ?_) (fun g10 => ?_)
 refine An (fun g11 => ?_) (fun g11 => ?_)
 refine An (fun g12 => ?_) (fun g12 => ?_)
 refine eX (CK.plain _ _) (An (ContractT.wk (c_marks_fits' x5_1.N x5_1.Min x5_1.Max x5_1.S x5_1.Q _ rfl) (r5 trivial)) (An rfl ?_))
 refine An (fun g13 => ?_) (fun g13 => ?_)
 replace h := cT (oR (oR (oR g10 g11) g12) g13) h
 refine eN ?_
 replace h := retS h hr1
 first | subst h | rw [← h]
 exact (r1 trivial)
 replace h := cF (oR (oR (oR g10 g11) g12) g13) h
 refine eN ?_
 refine eX (some (⟨Unit, fun _ => [(.tmp 0, .av (.lst 7 false (List.map enc_api_Mark p0))), (.tmp 1, .av (.int .i64 p1)), (.tmp 2, .av (.int .i64 p2)), (.tmp 3, .av (.int .i64 p3)), (.tmp 4, .av (.int .i64 p4)), (.tmp 5, .av (.int .i64 p5)), (.tmp 13, .av (.int .i64 v3_25)), (.tmp 14, .av (.ptr 1028 0)), (.tmp 23, .av (.lst 7 false (List.map enc_api_Mark p0))), (.tmp 24, .av (.int .i64 (p0.length : Int))), (.tmp 25, .av (.int .i64 v3_25)), (.tmp 110, .av (.sb (((decide (v3_25 > (0:Int))) || ((p0.length : Int) == (1:Int))) && (!(clock_Live p3 p4 x5_1.T))))), (.box 1028, .box (enc_api_Mark x5_1))], fun _ => True, fun _ => 0⟩, 1000000)) (An ?_ (fun _ _ => ?_))
 refine An (fun g14 => ?_) (fun g14 => ?_)
 refine eX [.int .i64 (p0.length : Int)] (An (lenS enc_api_Mark p0) ?_)
 refine An (fun g15 => ?_) (fun g15 => ?_)
 refine eX (CK.plain _ _) (An (ContractT.wk (c_clock_Live' p3 p4 x5_1.T _ rfl) (r3 trivial)) (An rfl ?_))
 exact eX [] (eX [] (eX () (An trivial (r1 (fr (r6 (fr (r2 (An (Eq.symm (aR (oR g14 g15) rfl)) (r7 trivial))))))))))
 exact eX [] (eX [] (eX () (An trivial (r1 (fr (r6 (fr (r2 (An (Eq.symm (aL (oR g14 g15))) (r7 trivial))))))))))
 refine eX (CK.plain _ _) (An (ContractT.wk (c_clock_Live' p3 p4 x5_1.T _ rfl) (r3 trivial)) (An rfl ?_))
 exact eX [] (eX [] (eX () (An trivial (r1 (fr (r6 (fr (r2 (An (Eq.symm (aR (oL g14) rfl)) (r7 trivial))))))))))
 refine An (fun g16 => ?_) (fun g16 => ?_)
 replace h := cT g16 h
 refine eN ?_
 replace h := retS h hr1
 first | subst h | rw [← h]
 exact (r1 trivial)
 replace h := cF g16 h
 refine eN ?_
 refine An (fun g17 => ?_) (fun g17 => ?_)
 replace h := cT g17 h
 refine eN ?_
 exact eX [] (eX [] (eX ((w64 (v3_25 + (1:Int))), m1) (An (hl1 (w64 (v3_25 + (1:Int))) (oJ h).symm) (An (Nat.lt_succ_self m1) (r1 (fr (r5 (fr (r2 trivial)))))))))
 replace h := cF g17 h
 refine eN ?_
 obtain ⟨x13_3, e13_3, h⟩ := bS h
 refine eX (enc_api_Mark x13_3) (An (idx_map enc_api_Mark e13_3) ?_)
 refine eN (eN ?_)
 refine An (fun g18 => ?_) (fun g18 => ?_)
 refine An (fun g19 => ?_) (fun g19 => ?_)
 refine An (fun g20 => ?_) (fun g20 => ?_)
 refine An (fun g21 => ?_) (fun g21 => ?_)
 refine eX (CK.plain _ _) (An (ContractT.wk (c_marks_fits' (w64 (x13_3.N - x5_1.N)) x13_3.Min x13_3.Max (w64 (x13_3.S - x5_1.S)) (w64 (x13_3.Q - x5_1.Q)) _ rfl) (r5 trivial)) (An rfl ?_))
 refine An (fun g22 => ?_) (fun g22 => ?_)
 replace h := cT (oR (oR (oR (oR g18 g19) g20) g21) g22) h
 refine eN ?_
 replace h := retS h hr1
 first | subst h | rw [← h]
 exact (r1 trivial)
 replace h := cF (oR (oR (oR (oR g18 g19) g20) g21) g22) h
 refine eN ?_
 exact eX [] (eX [] (eX ((w64 (v3_25 + (1:Int))), m1) (An (hl1 (w64 (v3_25 + (1:Int))) (oJ h).symm) (An (Nat.lt_succ_self m1) (r1 (fr (r5 (fr (r2 trivial)))))))))
 replace h := cT (oL (oR (oR (oR g18 g19) g20) g21)) h
 refine eN ?_
 replace h := retS h hr1
 first | subst h | rw [← h]
 exact (r1 trivial)
 replace h := cT (oL (oL (oR (oR g18 g19) g20))) h
 refine eN ?_
 replace h := retS h hr1
 first | subst h | rw [← h]
 exact (r1 trivial)
 replace h := cT (oL (oL (oL (oR g18 g19)))) h
 refine eN ?_
 replace h := retS h hr1
 first | subst h | rw [← h]
 exact (r1 trivial)
 replace h := cT (oL (oL (oL (oL g18)))) h
 refine eN ?_
 replace h := retS h hr1
 first | subst h | rw [← h]
 exact (r1 trivial)
 replace h := cT (oL (oR (oR g10 g11) g12)) h
 refine eN ?_
 replace h := retS h hr1
 first | subst h | rw [← h]
 exact (r1 trivial)
 replace h := cT (oL (oL (oR g10 g11))) h
 refine eN ?_
 replace h := retS h hr1
 first | subst h | rw [← h]
 exact (r1 trivial)
 replace h := cT (oL (oL (oL g10))) h
 refine eN ?_
 replace h := retS h hr1
 first | subst h | rw [← h]
 exact (r1 trivial)
 replace h := cT (oL (oR (oR (oR (oR g4 g5) g6) g7) g8)) h
 refine eN ?_
 replace h := retS h hr1
 first | subst h | rw [← h]
 exact (r1 trivial)
 replace h := cT (oL (oL (oR (oR (oR g4 g5) g6) g7))) h
 refine eN ?_
 replace h := retS h hr1
 first | subst h | rw [← h]
 exact (r1 trivial)
 replace h := cT (oL (oL (oL (oR (oR g4 g5) g6)))) h
 refine eN ?_
 replace h := retS h hr1
 first | subst h | rw [← h]
 exact (r1 trivial)
 replace h := cT (oL (oL (oL (oL (oR g4 g5))))) h
 refine eN ?_
 replace h := retS h hr1
 first | subst h | rw [← h]
 exact (r1 trivial)
 replace h := cT (oL (oL (oL (oL (oL g4))))) h
 refine eN ?_
 replace h := retS h hr1
 first | subst h | rw [← h]
 exact (r1 trivial)
 replace h := cF g3 h
 replace h := popS h hr1
 refine eN ?_
 refine eX [.int .i64 (p0.length : Int)] (An (lenS enc_api_Mark p0) ?_)
 refine An (fun g23 => ?_) (fun g23 => ?_)
 replace h := cT g23 h
 refine eN ?_
 replace h := oJ h
 first | subst h | rw [← h]
 exact (r1 trivial)
 replace h := cF g23 h
 refine eN ?_
 obtain ⟨x19_4, e19_4, h⟩ := bS h
 refine eX [.int .i64 (p0.length : Int)] (An (lenS enc_api_Mark p0) ?_)
 refine eX (enc_api_Mark x19_4) (An (idx_map enc_api_Mark e19_4) ?_)
 refine eN (eN ?_)
 refine An (fun g24 => ?_) (fun g24 => ?_)
 refine An (fun g25 => ?_) (fun g25 => ?_)
 refine An (fun g26 => ?_) (fun g26 => ?_)
 replace h := oJ h
 first | subst h | rw [← h]
 exact (An (Eq.symm (aR (aR (aR g24 g25) g26) rfl)) trivial)
 replace h := oJ h
 first | subst h | rw [← h]
 exact (An (Eq.symm (aL (aR (aR g24 g25) g26))) trivial)
 replace h := oJ h
 first | subst h | rw [← h]
 exact (An (Eq.symm (aL (aL (aR g24 g25)))) trivial)
 replace h := oJ h
 first | subst h | rw [← h]
 exact (An (Eq.symm (aL (aL (aL g24)))) trivial)
 replace h := cT (oL g1) h
 refine eN ?_
 replace h := oJ h
 first | subst h | rw [← h]
 exact (r1 trivial)

theorem c_num_Sub' (p0 : Int) (p1 : Int) (r : (Int × Bool)) (h : num_Sub p0 p1 = r) : Contract Tryz.prog 283 [.int .i64 p0, .int .i64 p1] [] (.tup [.int .i64 r.1, .sb r.2]) [] := by
 refine contract_of_vcs tab_ok orders_ok Tryz.func283 Tryz.call283 (by kernel_rfl) 1 rfl rfl _ rfl ?_
 delta num_Sub at h
 refine eN (eN (eN ?_))
 refine eX (some (⟨Unit, fun _ => [(.tmp 6, .av (.int .i64 (w64 (p0 - p1)))), (.tmp 21, .av (.sb ((!((decide (p0 ≥ (0:Int))) == (decide (p1 ≥ (0:Int))))) && (!((decide ((w64 (p0 - p1)) ≥ (0:Int))) == (decide (p0 ≥ (0:Int))))))))], fun _ => True, fun _ => 0⟩, 1000000)) (An ?_ (fun _ _ => ?_))
 refine An (fun g1 => ?_) (fun g1 => ?_)
 exact eX [] (eX [] (eX () (An trivial (r2 (An (Eq.symm (aR g1 rfl)) trivial)))))
 exact eX [] (eX [] (eX () (An trivial (r2 (An (Eq.symm (aL g1)) trivial)))))
 refine An (fun g2 => ?_) (fun g2 => ?_)
 replace h := cT g2 h
 refine eN ?_
 first | subst h | rw [← h]
 exact (r2 trivial)
 replace h := cF g2 h
 refine eN ?_
 first | subst h | rw [← h]
 exact (r2 trivial)

theorem c_smooth_Of' (p0 : api_Mark) (p1 : Int) (r : Int) (h : smooth_Of p0 p1 = r) : Contract Tryz.prog 248 [.agg (enc_api_Mark p0), .int .i64 p1] [] (.int .i64 r) [] := by
 refine contract_of_vcs tab_ok orders_ok Tryz.func248 Tryz.call248 (by kernel_rfl) 1 rfl rfl _ rfl ?_
 delta smooth_Of at h
 refine eN (eN (eN ?_))
 refine An (fun g1 => ?_) (fun g1 => ?_)
 replace h := cT g1 h
 refine eN ?_
 first | subst h | rw [← h]
 exact (r1 trivial)
 replace h := cF g1 h
 refine eN ?_
 refine An (fun g2 => ?_) (fun g2 => ?_)
 replace h := cT g2 h
 refine eN ?_
 first | subst h | rw [← h]
 exact (r1 trivial)
 replace h := cF g2 h
 refine eN ?_
 refine An (fun g3 => ?_) (fun g3 => ?_)
 replace h := cT g3 h
 refine eN ?_
 first | subst h | rw [← h]
 exact (r1 trivial)
 replace h := cF g3 h
 refine eN ?_
 refine An (fun g4 => ?_) (fun g4 => ?_)
 replace h := cT g4 h
 refine eN ?_
 refine eX (CK.plain _ _) (An (ContractT.wk (c_num_Sub' p0.Max p0.Min _ rfl) (r2 trivial)) (An rfl ?_))
 refine eN ?_
 first | subst h | rw [← h]
 exact (r1 trivial)
 replace h := cF g4 h
 refine eN ?_
 first | subst h | rw [← h]
 exact (r1 trivial)

theorem c_smooth_near' (p0 : api_Mark) (p1 : api_Mark) (p2 : Int) (p3 : Int) (r : Bool) (h : smooth_near p0 p1 p2 p3 = r) : Contract Tryz.prog 194 [.agg (enc_api_Mark p0), .agg (enc_api_Mark p1), .int .i64 p2, .int .i64 p3] [] (.sb r) [] := by
 refine contract_of_vcs tab_ok orders_ok Tryz.func194 Tryz.call194 (by kernel_rfl) 1 rfl rfl _ rfl ?_
 delta smooth_near at h
 refine eN (eN ?_)
 refine eX (CK.plain _ _) (An (ContractT.wk (c_smooth_Of' p1 p2 _ rfl) (r8 trivial)) (An rfl ?_))
 refine eX (CK.plain _ _) (An (ContractT.wk (c_smooth_Of' p0 p2 _ rfl) (r8 trivial)) (An rfl ?_))
 first | subst h | rw [← h]
 exact (r1 trivial)

theorem c_smooth_Validate (p0 : api_Smooth) (r : Int) (h : smooth_Validate p0 = some r) : Contract Tryz.prog 154 [.agg (enc_api_Smooth p0)] [] (.int .i64 r) [] := by
 refine contract_of_vcs tab_ok orders_ok Tryz.func154 Tryz.call154 (by kernel_rfl) 1 rfl rfl _ rfl ?_
 delta smooth_Validate at h
 refine eN (eN ?_)
 obtain ⟨y1_26, e1_26, h⟩ := bS h
 refine eN ?_
 refine eX (CK.plain _ _) (An (ContractT.wk (c_smooth_good' p0.Agg p0.W p0.K p0.Cap p0.Now _ rfl) (r5 trivial)) (An rfl ?_))
 refine An (fun g1 => ?_) (fun g1 => ?_)
 refine eX (CK.plain _ _) (An (ContractT.wk (c_smooth_least' p0.Agg _ rfl) (r1 trivial)) (An rfl ?_))
 refine eX (CK.plain _ _) (An (ContractT.wk (c_marks_Valid p0.Marks p0.Seq p0.Cap p0.Now p0.W (smooth_least p0.Agg) y1_26 (gdT (nE g1) e1_26)) (fr (r5 trivial))) (An rfl ?_))
 refine An (fun g2 => ?_) (fun g2 => ?_)
 replace h := cT (oR g1 g2) h
 refine eN ?_
 replace h := oJ h
 first | subst h | rw [← h]
 exact (r1 trivial)
 replace h := cF (oR g1 g2) h
 refine eN ?_
 refine eX [.int .i64 (p0.Marks.length : Int)] (An (lenS enc_api_Mark p0.Marks) ?_)
 replace h : smooth_Validate_l3 p0 (0:Int) = some r := h
 delta smooth_Validate_l3 at h
 obtain ⟨n1, h⟩ := loopS h
 refine eX (Sum.inl ⟨Int × Nat, fun q => [(.tmp 1, .av (.ptr 1 0)), (.tmp 35, .av (.lst 7 false (List.map enc_api_Mark p0.Marks))), (.tmp 36, .av (.int .i64 (p0.Marks.length : Int))), (.tmp 37, .av (.int .i64 q.1)), (.box 1, .box (enc_api_Smooth p0))], fun q => loopN (fun (s : Int) => smooth_Validate_l3s p0 s) q.2 q.1 = some r, fun q => q.2⟩) (An (eX [] (eX [] (eX ((0:Int), n1) (An h (r1 (fr (r8 (fr trivial)))))))) ?_)
 clear h
 refine fun q h => ?_
 obtain ⟨v3_37, n1⟩ := q
 obtain ⟨m1, x1, hm1, h, hl1, hr1⟩ := loopN_step h
 replace hm1 : n1 = m1 + 1 := hm1
 subst hm1
 replace h : smooth_Validate_l3s p0 v3_37 = some x1 := h
 delta smooth_Validate_l3s at h
 refine eN ?_
 refine An (fun g3 => ?_) (fun g3 => ?_)
 replace h := cT g3 h
 refine eN ?_
 obtain ⟨x5_1, e5_1, h⟩ := bS h
 refine eX (enc_api_Mark x5_1) (An (idx_map enc_api_Mark e5_1) ?_)
 refine eN ?_
 obtain ⟨x6_7, e6_7, h⟩ := bS h
 refine eX (some (⟨Unit, fun _ => [(.tmp 1, .av (.ptr 1 0)), (.tmp 3, .av (.int .i64 v3_37)), (.tmp 4, .av (.ptr 1028 0)), (.tmp 35, .av (.lst 7 false (List.map enc_api_Mark p0.Marks))), (.tmp 36, .av (.int .i64 (p0.Marks.length : Int))), (.tmp 37, .av (.int .i64 v3_37)), (.tmp 57, .av (.sb ((decide (v3_37 ≥ (2:Int))) && (smooth_near x6_7 x5_1 p0.Agg p0.K)))), (.box 1, .box (enc_api_Smooth p0)), (.box 1028, .box (enc_api_Mark x5_1))], fun _ => True, fun _ => 0⟩, 1000000)) (An ?_ (fun _ _ => ?_))
 refine An (fun g4 => ?_) (fun g4 => ?_)
 refine eX (enc_api_Mark x6_7) (An (idx_map enc_api_Mark (gdT g4 e6_7)) ?_)
 refine eX (CK.plain _ _) (An (ContractT.wk (c_smooth_near' x6_7 x5_1 p0.Agg p0.K _ rfl) (r16 trivial)) (An rfl ?_))
 exact eX [] (eX [] (eX () (An trivial (r2 (fr (r2 (An (Eq.symm (aR g4 rfl)) (r6 (fr (r7 trivial))))))))))
 exact eX [] (eX [] (eX () (An trivial (r2 (fr (r2 (An (Eq.symm (aL g4)) (r6 (fr (r7 trivial))))))))))
 refine An (fun g5 => ?_) (fun g5 => ?_)
 replace h := cT g5 h
 refine eN ?_
 replace h := retS h hr1
 first | subst h | rw [← h]
 exact (r1 trivial)
 replace h := cF g5 h
 refine eN ?_
 obtain ⟨x8_9, e8_9, h⟩ := bS h
 obtain ⟨x8_20, e8_20, h⟩ := bS h
 refine eX (some (⟨Unit, fun _ => [(.tmp 1, .av (.ptr 1 0)), (.tmp 35, .av (.lst 7 false (List.map enc_api_Mark p0.Marks))), (.tmp 36, .av (.int .i64 (p0.Marks.length : Int))), (.tmp 37, .av (.int .i64 v3_37)), (.tmp 87, .av (.sb (((decide (v3_37 ≥ (1:Int))) && (decide ((w64 (x5_1.Seq - x8_9.Seq)) > (1:Int)))) && (!(smooth_near x8_20 x5_1 p0.Agg p0.K))))), (.box 1, .box (enc_api_Smooth p0))], fun _ => True, fun _ => 0⟩, 2000000)) (An ?_ (fun _ _ => ?_))
 refine An (fun g6 => ?_) (fun g6 => ?_)
 refine eX (enc_api_Mark x8_9) (An (idx_map enc_api_Mark (gdT g6 e8_9)) ?_)
 refine An (fun g7 => ?_) (fun g7 => ?_)
 refine eX (enc_api_Mark x8_20) (An (idx_map enc_api_Mark (gdT (aR g6 g7) e8_20)) ?_)
 refine eX (CK.plain _ _) (An (ContractT.wk (c_smooth_near' x8_20 x5_1 p0.Agg p0.K _ rfl) (r16 trivial)) (An rfl ?_))
 exact eX [] (eX [] (eX () (An trivial (r1 (fr (r2 (An (Eq.symm (aR (aR g6 g7) rfl)) (r6 (fr trivial)))))))))
 exact eX [] (eX [] (eX () (An trivial (r1 (fr (r2 (An (Eq.symm (aL (aR g6 g7))) (r6 (fr trivial)))))))))
 exact eX [] (eX [] (eX () (An trivial (r1 (fr (r2 (An (Eq.symm (aL (aL g6))) (r6 (fr trivial)))))))))
 refine An (fun g8 => ?_) (fun g8 => ?_)
 replace h := cT g8 h
 refine eN ?_
 replace h := retS h hr1
 first | subst h | rw [← h]
 exact (r1 trivial)
 replace h := cF g8 h
 refine eN ?_
 exact eX [] (eX [] (eX ((w64 (v3_37 + (1:Int))), m1) (An (hl1 (w64 (v3_37 + (1:Int))) (oJ h).symm) (An (Nat.lt_succ_self m1) (r1 (fr (r8 (fr trivial))))))))
 replace h := cF g3 h
 replace h := popS h hr1
 refine eN ?_
 replace h := oJ h
 first | subst h | rw [← h]
 exact (r1 trivial)
 replace h := cT (oL g1) h
 refine eN ?_
 replace h := oJ h
 first | subst h | rw [← h]
 exact (r1 trivial)

theorem c_spread_right' (p0 : api_Mark) (r : Bool) (h : spread_right p0 = r) : Contract Tryz.prog 249 [.agg (enc_api_Mark p0)] [] (.sb r) [] := by
 refine contract_of_vcs tab_ok orders_ok Tryz.func249 Tryz.call249 (by kernel_rfl) 1 rfl rfl _ rfl ?_
 delta spread_right at h
 refine eN (eN (eN ?_))
 refine An (fun g1 => ?_) (fun g1 => ?_)
 refine An (fun g2 => ?_) (fun g2 => ?_)
 refine An (fun g3 => ?_) (fun g3 => ?_)
 refine An (fun g4 => ?_) (fun g4 => ?_)
 refine An (fun g5 => ?_) (fun g5 => ?_)
 refine An (fun g6 => ?_) (fun g6 => ?_)
 replace h := cT (oR (oR (oR (oR (oR g1 g2) g3) g4) g5) g6) h
 refine eN ?_
 first | subst h | rw [← h]
 exact (r1 trivial)
 replace h := cF (oR (oR (oR (oR (oR g1 g2) g3) g4) g5) g6) h
 refine eN ?_
 first | subst h | rw [← h]
 exact (r1 trivial)
 replace h := cT (oL (oR (oR (oR (oR g1 g2) g3) g4) g5)) h
 refine eN ?_
 first | subst h | rw [← h]
 exact (r1 trivial)
 replace h := cT (oL (oL (oR (oR (oR g1 g2) g3) g4))) h
 refine eN ?_
 first | subst h | rw [← h]
 exact (r1 trivial)
 replace h := cT (oL (oL (oL (oR (oR g1 g2) g3)))) h
 refine eN ?_
 first | subst h | rw [← h]
 exact (r1 trivial)
 replace h := cT (oL (oL (oL (oL (oR g1 g2))))) h
 refine eN ?_
 first | subst h | rw [← h]
 exact (r1 trivial)
 replace h := cT (oL (oL (oL (oL (oL g1))))) h
 refine eN ?_
 first | subst h | rw [← h]
 exact (r1 trivial)

theorem c_spread_top' (p0 : api_Mark) (r : Int) (h : spread_top p0 = r) : Contract Tryz.prog 251 [.agg (enc_api_Mark p0)] [] (.int .i64 r) [] := by
 refine contract_of_vcs tab_ok orders_ok Tryz.func251 Tryz.call251 (by kernel_rfl) 1 rfl rfl _ rfl ?_
 delta spread_top at h
 refine eN (eN ?_)
 first | subst h | rw [← h]
 exact (r1 trivial)

theorem c_math_bits_Mul64' (p0 : Int) (p1 : Int) (r : (Int × Int)) (h : math_bits_Mul64 p0 p1 = r) : Contract Tryz.prog 284 [.int .u64 p0, .int .u64 p1] [] (.tup [.int .u64 r.1, .int .u64 r.2]) [] := by
 refine contract_of_vcs tab_ok orders_ok Tryz.func284 Tryz.call284 (by kernel_rfl) 1 rfl rfl _ rfl ?_
 delta math_bits_Mul64 at h
 refine eN (eN (eN ?_))
 refine An (by decide) ?_
 refine eN (eN ?_)
 refine An (by decide) ?_
 refine eN (eN ?_)
 refine An (by decide) ?_
 refine eN (eN ?_)
 refine An (by decide) ?_
 refine eN (eN ?_)
 refine An (by decide) ?_
 refine eN ?_
 first | subst h | rw [← h]
 exact (r2 trivial)

theorem c_wide_Product' (p0 : Int) (p1 : Int) (r : api_Wide) (h : wide_Product p0 p1 = r) : Contract Tryz.prog 250 [.int .u64 p0, .int .u64 p1] [] (.agg [.int .u64 r.Hi, .int .u64 r.Lo]) [] := by
 refine contract_of_vcs tab_ok orders_ok Tryz.func250 Tryz.call250 (by kernel_rfl) 1 rfl rfl _ rfl ?_
 delta wide_Product at h
 refine eN (eN ?_)
 refine eX (CK.plain _ _) (An (ContractT.wk (c_math_bits_Mul64' p0 p1 _ rfl) (r2 trivial)) (An rfl ?_))
 refine eN ?_
 first | subst h | rw [← h]
 exact (r2 trivial)

theorem c_wide_Of' (p0 : Int) (r : api_Wide) (h : wide_Of p0 = r) : Contract Tryz.prog 199 [.int .u64 p0] [] (.agg [.int .u64 r.Hi, .int .u64 r.Lo]) [] := by
 refine contract_of_vcs tab_ok orders_ok Tryz.func199 Tryz.call199 (by kernel_rfl) 1 rfl rfl _ rfl ?_
 delta wide_Of at h
 refine eN (eN ?_)
 first | subst h | rw [← h]
 exact (r2 trivial)

theorem c_math_bits_Add64 (p0 p1 p2 : Int) (r : (Int × Int)) (h : math_bits_Add64 p0 p1 p2 = some r) : Contract Tryz.prog 252 [.int .u64 p0, .int .u64 p1, .int .u64 p2] [] (.tup [.int .u64 r.1, .int .u64 r.2]) [] :=
  ext_Add64 Tryz.func252 (by kernel_rfl) (by kernel_rfl) (by kernel_rfl) (by kernel_rfl) p0 p1 p2 r h

theorem c_wide_Add (p0 : api_Wide) (p1 : api_Wide) (r : (api_Wide × Bool)) (h : wide_Add p0 p1 = some r) : Contract Tryz.prog 200 [.agg [.int .u64 p0.Hi, .int .u64 p0.Lo], .agg [.int .u64 p1.Hi, .int .u64 p1.Lo]] [] (.tup [.agg [.int .u64 r.1.Hi, .int .u64 r.1.Lo], .sb r.2]) [] := by
 refine contract_of_vcs tab_ok orders_ok Tryz.func200 Tryz.call200 (by kernel_rfl) 1 rfl rfl _ rfl ?_
 delta wide_Add at h
 refine eN (eN ?_)
 obtain ⟨y1_4, e1_4, h⟩ := bS h
 refine eX (CK.plain _ _) (An (ContractT.wk (c_math_bits_Add64 p0.Lo p1.Lo (0:Int) y1_4 e1_4) (r3 trivial)) (An rfl ?_))
 refine eN ?_
 obtain ⟨y2_5, e2_5, h⟩ := bS h
 refine eX (CK.plain _ _) (An (ContractT.wk (c_math_bits_Add64 p0.Hi p1.Hi y1_4.2 y2_5 e2_5) (r3 trivial)) (An rfl ?_))
 refine eN ?_
 refine An (fun g1 => ?_) (fun g1 => ?_)
 replace h := cT g1 h
 refine eN ?_
 replace h := oJ h
 first | subst h | rw [← h]
 exact (r3 trivial)
 replace h := cF g1 h
 refine eN ?_
 replace h := oJ h
 first | subst h | rw [← h]
 exact (r3 trivial)

theorem c_wide_Mul (p0 : api_Wide) (p1 : api_Wide) (r : (api_Wide × Bool)) (h : wide_Mul p0 p1 = some r) : Contract Tryz.prog 198 [.agg [.int .u64 p0.Hi, .int .u64 p0.Lo], .agg [.int .u64 p1.Hi, .int .u64 p1.Lo]] [] (.tup [.agg [.int .u64 r.1.Hi, .int .u64 r.1.Lo], .sb r.2]) [] := by
 refine contract_of_vcs tab_ok orders_ok Tryz.func198 Tryz.call198 (by kernel_rfl) 1 rfl rfl _ rfl ?_
 delta wide_Mul at h
 refine eN (eN ?_)
 refine eX (some (⟨Unit, fun _ => [(.tmp 2, .av (.ptr 1 0)), (.tmp 3, .av (.ptr 2 0)), (.tmp 4, .av (.ptr 3 0)), (.tmp 15, .av (.sb ((p0.Hi != (0:Int)) && (p1.Hi != (0:Int))))), (.box 1, .box [.int .u64 p0.Hi, .int .u64 p0.Lo]), (.box 2, .box [.int .u64 p1.Hi, .int .u64 p1.Lo]), (.box 3, .box [.int .u64 (0:Int), .int .u64 (0:Int)])], fun _ => True, fun _ => 0⟩, 1000000)) (An ?_ (fun _ _ => ?_))
 refine An (fun g1 => ?_) (fun g1 => ?_)
 exact eX [] (eX [] (eX () (An trivial (r1 (An (Eq.symm (aR g1 rfl)) (r6 trivial))))))
 exact eX [] (eX [] (eX () (An trivial (r1 (An (Eq.symm (aL g1)) (r6 trivial))))))
 refine An (fun g2 => ?_) (fun g2 => ?_)
 replace h := cT g2 h
 refine eN ?_
 replace h := oJ h
 first | subst h | rw [← h]
 exact (r3 trivial)
 replace h := cF g2 h
 refine eN ?_
 refine eX (some (⟨Int × Int × Int × Int, fun q => [(.tmp 2, .av (.ptr 1 0)), (.tmp 3, .av (.ptr 2 0)), (.tmp 4, .av (.ptr 3 0)), (.box 1, .box [.int .u64 q.1, .int .u64 q.2.1]), (.box 2, .box [.int .u64 q.2.2.1, .int .u64 q.2.2.2]), (.box 3, .box [.int .u64 (0:Int), .int .u64 (0:Int)])], fun q => wide_Mul_j2 q.1 q.2.1 q.2.2.1 q.2.2.2 = some r, fun _ => 0⟩, 2000000)) (An ?_ ?_)
 refine An (fun g3 => ?_) (fun g3 => ?_)
 replace h := cT g3 h
 refine eN ?_
 exact eX [] (eX [] (eX (p1.Hi, p1.Lo, p0.Hi, p0.Lo) (An h (r7 trivial))))
 replace h := cF g3 h
 exact eX [] (eX [] (eX (p0.Hi, p0.Lo, p1.Hi, p1.Lo) (An h (r7 trivial))))
 clear h
 refine fun q h => ?_
 obtain ⟨j2_b0x0_0, j2_b0x0_1, j2_b0x1_0, j2_b0x1_1⟩ := q
 replace h : wide_Mul_j2 j2_b0x0_0 j2_b0x0_1 j2_b0x1_0 j2_b0x1_1 = some r := h
 delta wide_Mul_j2 at h
 refine eN ?_
 refine eX (CK.plain _ _) (An (ContractT.wk (c_wide_Product' j2_b0x0_1 j2_b0x1_1 _ rfl) (r2 trivial)) (An rfl ?_))
 refine eX (CK.plain _ _) (An (ContractT.wk (c_wide_Product' j2_b0x0_1 j2_b0x1_0 _ rfl) (r2 trivial)) (An rfl ?_))
 refine eN ?_
 refine An (fun g4 => ?_) (fun g4 => ?_)
 replace h := cT g4 h
 refine eN ?_
 replace h := oJ h
 first | subst h | rw [← h]
 exact (r3 trivial)
 replace h := cF g4 h
 refine eN ?_
 obtain ⟨y8_4, e8_4, h⟩ := bS h
 refine eX (CK.plain _ _) (An (ContractT.wk (c_wide_Add (wide_Product j2_b0x0_1 j2_b0x1_1) (api_Wide.mk (wide_Product j2_b0x0_1 j2_b0x1_0).Lo (0:Int)) y8_4 e8_4) (r4 trivial)) (An rfl ?_))
 replace h := oJ h
 first | subst h | rw [← h]
 exact (r3 trivial)

theorem c_wide_Compare' (p0 : api_Wide) (p1 : api_Wide) (r : Int) (h : wide_Compare p0 p1 = r) : Contract Tryz.prog 232 [.agg [.int .u64 p0.Hi, .int .u64 p0.Lo], .agg [.int .u64 p1.Hi, .int .u64 p1.Lo]] [] (.int .i64 r) [] := by
 refine contract_of_vcs tab_ok orders_ok Tryz.func232 Tryz.call232 (by kernel_rfl) 1 rfl rfl _ rfl ?_
 delta wide_Compare at h
 refine eN (eN ?_)
 refine eX (some (⟨Unit, fun _ => [(.tmp 2, .av (.ptr 1 0)), (.tmp 3, .av (.ptr 2 0)), (.tmp 5, .av (.sb ((decide (p0.Hi < p1.Hi)) || ((p0.Hi == p1.Hi) && (decide (p0.Lo < p1.Lo)))))), (.box 1, .box [.int .u64 p0.Hi, .int .u64 p0.Lo]), (.box 2, .box [.int .u64 p1.Hi, .int .u64 p1.Lo])], fun _ => True, fun _ => 0⟩, 1000000)) (An ?_ (fun _ _ => ?_))
 refine An (fun g1 => ?_) (fun g1 => ?_)
 refine An (fun g2 => ?_) (fun g2 => ?_)
 exact eX [] (eX [] (eX () (An trivial (r1 (An (Eq.symm (oR g1 (aR g2 rfl))) (r4 trivial))))))
 exact eX [] (eX [] (eX () (An trivial (r1 (An (Eq.symm (oR g1 (aL g2))) (r4 trivial))))))
 exact eX [] (eX [] (eX () (An trivial (r1 (An (Eq.symm (oL g1)) (r4 trivial))))))
 refine An (fun g3 => ?_) (fun g3 => ?_)
 replace h := cT g3 h
 refine eN ?_
 first | subst h | rw [← h]
 exact (r1 trivial)
 replace h := cF g3 h
 refine eN ?_
 refine An (fun g4 => ?_) (fun g4 => ?_)
 replace h := cT g4 h
 refine eN ?_
 first | subst h | rw [← h]
 exact (r1 trivial)
 replace h := cF g4 h
 refine eN ?_
 first | subst h | rw [← h]
 exact (r1 trivial)

theorem c_spread_Close (p0 : api_Mark) (p1 : api_Mark) (p2 : Int) (r : Bool) (h : spread_Close p0 p1 p2 = some r) : Contract Tryz.prog 196 [.agg (enc_api_Mark p0), .agg (enc_api_Mark p1), .int .i64 p2] [] (.sb r) [] := by
 refine contract_of_vcs tab_ok orders_ok Tryz.func196 Tryz.call196 (by kernel_rfl) 1 rfl rfl _ rfl ?_
 delta spread_Close at h
 refine eN (eN (eN ?_))
 refine eX (CK.plain _ _) (An (ContractT.wk (c_spread_right' p0 _ rfl) (r7 trivial)) (An rfl ?_))
 refine An (fun g1 => ?_) (fun g1 => ?_)
 refine eX (CK.plain _ _) (An (ContractT.wk (c_spread_right' p1 _ rfl) (r7 trivial)) (An rfl ?_))
 refine An (fun g2 => ?_) (fun g2 => ?_)
 refine An (fun g3 => ?_) (fun g3 => ?_)
 refine An (fun g4 => ?_) (fun g4 => ?_)
 replace h := cT (oR (oR (oR g1 g2) g3) g4) h
 refine eN ?_
 replace h := oJ h
 first | subst h | rw [← h]
 exact (r1 trivial)
 replace h := cF (oR (oR (oR g1 g2) g3) g4) h
 refine eN (eN ?_)
 refine An (fun g5 => ?_) (fun g5 => ?_)
 replace h := cT g5 h
 refine eN ?_
 replace h := oJ h
 first | subst h | rw [← h]
 exact (r1 trivial)
 replace h := cF g5 h
 refine eN ?_
 obtain ⟨y6_10, e6_10, h⟩ := bS h
 refine eX (CK.plain _ _) (An (ContractT.wk (c_spread_top' p1 _ rfl) (r7 trivial)) (An rfl ?_))
 refine eX (CK.plain _ _) (An (ContractT.wk (c_wide_Product' (wu64 (spread_top p1)) (wu64 p0.N) _ rfl) (r2 trivial)) (An rfl ?_))
 refine eX (CK.plain _ _) (An (ContractT.wk (c_wide_Of' (wu64 (w64 ((6:Int) * p2))) _ rfl) (r1 trivial)) (An rfl ?_))
 refine eX (CK.plain _ _) (An (ContractT.wk (c_wide_Mul (wide_Product (wu64 (spread_top p1)) (wu64 p0.N)) (wide_Of (wu64 (w64 ((6:Int) * p2)))) y6_10 e6_10) (r4 trivial)) (An rfl ?_))
 refine eN ?_
 obtain ⟨y7_10, e7_10, h⟩ := bS h
 refine eX (CK.plain _ _) (An (ContractT.wk (c_spread_top' p0 _ rfl) (r7 trivial)) (An rfl ?_))
 refine eX (CK.plain _ _) (An (ContractT.wk (c_wide_Product' (wu64 (spread_top p0)) (wu64 p1.N) _ rfl) (r2 trivial)) (An rfl ?_))
 refine eX (CK.plain _ _) (An (ContractT.wk (c_wide_Of' (wu64 (w64 ((w64 ((6:Int) * p2)) - (1:Int)))) _ rfl) (r1 trivial)) (An rfl ?_))
 refine eX (CK.plain _ _) (An (ContractT.wk (c_wide_Mul (wide_Product (wu64 (spread_top p0)) (wu64 p1.N)) (wide_Of (wu64 (w64 ((w64 ((6:Int) * p2)) - (1:Int))))) y7_10 e7_10) (r4 trivial)) (An rfl ?_))
 refine eN ?_
 refine eX (CK.plain _ _) (An (ContractT.wk (c_wide_Compare' y6_10.1 y7_10.1 _ rfl) (r4 trivial)) (An rfl ?_))
 replace h := oJ h
 first | subst h | rw [← h]
 exact (r1 trivial)
 replace h := cT (oL (oR (oR g1 g2) g3)) h
 refine eN ?_
 replace h := oJ h
 first | subst h | rw [← h]
 exact (r1 trivial)
 replace h := cT (oL (oL (oR g1 g2))) h
 refine eN ?_
 replace h := oJ h
 first | subst h | rw [← h]
 exact (r1 trivial)
 replace h := cT (oL (oL (oL g1))) h
 refine eN ?_
 replace h := oJ h
 first | subst h | rw [← h]
 exact (r1 trivial)

theorem c_spread_Validate (p0 : api_Spread) (r : Int) (h : spread_Validate p0 = some r) : Contract Tryz.prog 155 [.agg (enc_api_Spread p0)] [] (.int .i64 r) [] := by
 refine contract_of_vcs tab_ok orders_ok Tryz.func155 Tryz.call155 (by kernel_rfl) 1 rfl rfl _ rfl ?_
 delta spread_Validate at h
 refine eN (eN ?_)
 obtain ⟨y1_21, e1_21, h⟩ := bS h
 refine eN ?_
 refine eX (CK.plain _ _) (An (ContractT.wk (c_marks_Good' p0.W p0.K p0.Cap p0.Now _ rfl) (r4 trivial)) (An rfl ?_))
 refine An (fun g1 => ?_) (fun g1 => ?_)
 refine eX (CK.plain _ _) (An (ContractT.wk (c_marks_Valid p0.Marks p0.Seq p0.Cap p0.Now p0.W (-4096:Int) y1_21 (gdT (nE g1) e1_21)) (fr (r5 trivial))) (An rfl ?_))
 refine An (fun g2 => ?_) (fun g2 => ?_)
 replace h := cT (oR g1 g2) h
 refine eN ?_
 replace h := oJ h
 first | subst h | rw [← h]
 exact (r1 trivial)
 replace h := cF (oR g1 g2) h
 refine eN ?_
 replace h : spread_Validate_l3 p0 (2:Int) = some r := h
 delta spread_Validate_l3 at h
 obtain ⟨n1, h⟩ := loopS h
 refine eX (Sum.inl ⟨Int × Nat, fun q => [(.tmp 1, .av (.ptr 1 0)), (.tmp 3, .av (.int .i64 q.1)), (.box 1, .box (enc_api_Spread p0))], fun q => loopN (fun (s : Int) => spread_Validate_l3s p0 s) q.2 q.1 = some r, fun q => q.2⟩) (An (eX [] (eX [] (eX ((2:Int), n1) (An h (r7 (fr trivial)))))) ?_)
 clear h
 refine fun q h => ?_
 obtain ⟨v3_3, n1⟩ := q
 obtain ⟨m1, x1, hm1, h, hl1, hr1⟩ := loopN_step h
 replace hm1 : n1 = m1 + 1 := hm1
 subst hm1
 replace h : spread_Validate_l3s p0 v3_3 = some x1 := h
 delta spread_Validate_l3s at h
 refine eN ?_
 refine eX [.int .i64 (p0.Marks.length : Int)] (An (lenS enc_api_Mark p0.Marks) ?_)
 refine An (fun g3 => ?_) (fun g3 => ?_)
 replace h := cT g3 h
 refine eN ?_
 obtain ⟨x6_4, e6_4, h⟩ := bS h
 obtain ⟨x6_9, e6_9, h⟩ := bS h
 obtain ⟨y6_13, e6_13, h⟩ := bS h
 refine eX (enc_api_Mark x6_4) (An (idx_map enc_api_Mark e6_4) ?_)
 refine eX (enc_api_Mark x6_9) (An (idx_map enc_api_Mark e6_9) ?_)
 refine eX (CK.plain _ _) (An (ContractT.wk (c_spread_Close x6_4 x6_9 p0.K y6_13 e6_13) (r12 (r3 trivial))) (An rfl ?_))
 refine An (fun g4 => ?_) (fun g4 => ?_)
 replace h := cT g4 h
 refine eN ?_
 replace h := retS h hr1
 first | subst h | rw [← h]
 exact (r1 trivial)
 replace h := cF g4 h
 refine eN ?_
 exact eX [] (eX [] (eX ((w64 (v3_3 + (1:Int))), m1) (An (hl1 (w64 (v3_3 + (1:Int))) (oJ h).symm) (An (Nat.lt_succ_self m1) (r7 (fr trivial))))))
 replace h := cF g3 h
 replace h := popS h hr1
 refine eN ?_
 replace h := oJ h
 first | subst h | rw [← h]
 exact (r1 trivial)
 replace h := cT (oL g1) h
 refine eN ?_
 replace h := oJ h
 first | subst h | rw [← h]
 exact (r1 trivial)

theorem c_poly_tick' (p0 : Int) (r : Bool) (h : poly_tick p0 = r) : Contract Tryz.prog 134 [.int .i64 p0] [] (.sb r) [] := by
 refine contract_of_vcs tab_ok orders_ok Tryz.func134 Tryz.call134 (by kernel_rfl) 1 rfl rfl _ rfl ?_
 delta poly_tick at h
 refine eN (eN (eN ?_))
 refine An (fun g1 => ?_) (fun g1 => ?_)
 first | subst h | rw [← h]
 exact (An (Eq.symm (aR g1 rfl)) trivial)
 first | subst h | rw [← h]
 exact (An (Eq.symm (aL g1)) trivial)

theorem c_poly_Validate (p0 : api_Poly) (r : Int) (h : poly_Validate p0 = some r) : Contract Tryz.prog 156 [.agg (enc_api_Poly p0)] [] (.int .i64 r) [] := by
 refine contract_of_vcs tab_ok orders_ok Tryz.func156 Tryz.call156 (by kernel_rfl) 1 rfl rfl _ rfl ?_
 delta poly_Validate at h
 refine eN (eN (eN ?_))
 refine An (fun g1 => ?_) (fun g1 => ?_)
 refine An (fun g2 => ?_) (fun g2 => ?_)
 refine eX (CK.plain _ _) (An (ContractT.wk (c_poly_tick' p0.Now _ rfl) (r1 trivial)) (An rfl ?_))
 refine An (fun g3 => ?_) (fun g3 => ?_)
 refine An (fun g4 => ?_) (fun g4 => ?_)
 refine An (fun g5 => ?_) (fun g5 => ?_)
 refine eX [.int .i64 (p0.Moments.length : Int)] (An (lenS enc_api_Wide p0.Moments) ?_)
 refine An (fun g6 => ?_) (fun g6 => ?_)
 replace h := cT (oR (oR (oR (oR (oR g1 g2) g3) g4) g5) g6) h
 refine eN ?_
 replace h := oJ h
 first | subst h | rw [← h]
 exact (r1 trivial)
 replace h := cF (oR (oR (oR (oR (oR g1 g2) g3) g4) g5) g6) h
 refine eN ?_
 refine eX (CK.plain _ _) (An (ContractT.wk (c_wide_Of' (wu64 (w64 ((w64 (p0.Now - p0.Land)) + (1:Int)))) _ rfl) (r1 trivial)) (An rfl ?_))
 refine eN ?_
 replace h : poly_Validate_l3 p0 (wide_Of (wu64 (w64 ((w64 (p0.Now - p0.Land)) + (1:Int))))) (1:Int) = some r := h
 delta poly_Validate_l3 at h
 obtain ⟨n1, h⟩ := loopS h
 refine eX (Sum.inl ⟨Int × Nat, fun q => [(.tmp 1, .av (.ptr 1 0)), (.tmp 3, .av (.ptr 521 0)), (.tmp 4, .av (.int .i64 q.1)), (.box 1, .box (enc_api_Poly p0)), (.box 521, .box [.int .u64 (wide_Of (wu64 (w64 ((w64 (p0.Now - p0.Land)) + (1:Int))))).Hi, .int .u64 (wide_Of (wu64 (w64 ((w64 (p0.Now - p0.Land)) + (1:Int))))).Lo])], fun q => loopN (fun (s : Int) => poly_Validate_l3s p0 (wide_Of (wu64 (w64 ((w64 (p0.Now - p0.Land)) + (1:Int))))) s) q.2 q.1 = some r, fun q => q.2⟩) (An (eX [] (eX [] (eX ((1:Int), n1) (An h (r5 (fr (r2 trivial))))))) ?_)
 clear h
 refine fun q h => ?_
 obtain ⟨v3_4, n1⟩ := q
 obtain ⟨m1, x1, hm1, h, hl1, hr1⟩ := loopN_step h
 replace hm1 : n1 = m1 + 1 := hm1
 subst hm1
 replace h : poly_Validate_l3s p0 (wide_Of (wu64 (w64 ((w64 (p0.Now - p0.Land)) + (1:Int))))) v3_4 = some x1 := h
 delta poly_Validate_l3s at h
 refine eN ?_
 refine An (fun g7 => ?_) (fun g7 => ?_)
 replace h := cT g7 h
 refine eN ?_
 obtain ⟨x7_4, e7_4, h⟩ := bS h
 obtain ⟨x7_9, e7_9, h⟩ := bS h
 refine eX [.int .u64 x7_4.Hi, .int .u64 x7_4.Lo] (An (idx_map enc_api_Wide e7_4) ?_)
 refine eX [.int .u64 x7_9.Hi, .int .u64 x7_9.Lo] (An (idx_map enc_api_Wide e7_9) ?_)
 refine eX (CK.plain _ _) (An (ContractT.wk (c_wide_Compare' x7_4 x7_9 _ rfl) (r4 trivial)) (An rfl ?_))
 refine An (fun g8 => ?_) (fun g8 => ?_)
 replace h := cT g8 h
 refine eN ?_
 replace h := retS h hr1
 first | subst h | rw [← h]
 exact (r1 trivial)
 replace h := cF g8 h
 refine eN ?_
 obtain ⟨x9_4, e9_4, h⟩ := bS h
 obtain ⟨y9_7, e9_7, h⟩ := bS h
 refine eX [.int .u64 x9_4.Hi, .int .u64 x9_4.Lo] (An (idx_map enc_api_Wide e9_4) ?_)
 refine eX (CK.plain _ _) (An (ContractT.wk (c_wide_Mul x9_4 (wide_Of (wu64 (w64 ((w64 (p0.Now - p0.Land)) + (1:Int))))) y9_7 e9_7) (r4 trivial)) (An rfl ?_))
 refine eN ?_
 obtain ⟨x10_5, e10_5, h⟩ := bS h
 refine eX (some (⟨Unit, fun _ => [(.tmp 1, .av (.ptr 1 0)), (.tmp 3, .av (.ptr 521 0)), (.tmp 4, .av (.int .i64 v3_4)), (.tmp 90, .av (.sb (y9_7.2 && (decide ((wide_Compare x10_5 y9_7.1) > (0:Int)))))), (.box 1, .box (enc_api_Poly p0)), (.box 521, .box [.int .u64 (wide_Of (wu64 (w64 ((w64 (p0.Now - p0.Land)) + (1:Int))))).Hi, .int .u64 (wide_Of (wu64 (w64 ((w64 (p0.Now - p0.Land)) + (1:Int))))).Lo])], fun _ => True, fun _ => 0⟩, 1000000)) (An ?_ (fun _ _ => ?_))
 refine An (fun g9 => ?_) (fun g9 => ?_)
 refine eX [.int .u64 x10_5.Hi, .int .u64 x10_5.Lo] (An (idx_map enc_api_Wide (gdT g9 e10_5)) ?_)
 refine eX (CK.plain _ _) (An (ContractT.wk (c_wide_Compare' x10_5 y9_7.1 _ rfl) (r4 trivial)) (An rfl ?_))
 exact eX [] (eX [] (eX () (An trivial (r2 (An (Eq.symm (aR g9 rfl)) (r3 (fr (r2 trivial))))))))
 exact eX [] (eX [] (eX () (An trivial (r2 (An (Eq.symm (aL g9)) (r3 (fr (r2 trivial))))))))
 refine An (fun g10 => ?_) (fun g10 => ?_)
 replace h := cT g10 h
 refine eN ?_
 replace h := retS h hr1
 first | subst h | rw [← h]
 exact (r1 trivial)
 replace h := cF g10 h
 refine eN ?_
 exact eX [] (eX [] (eX ((w64 (v3_4 + (1:Int))), m1) (An (hl1 (w64 (v3_4 + (1:Int))) (oJ h).symm) (An (Nat.lt_succ_self m1) (r5 (fr (r2 trivial)))))))
 replace h := cF g7 h
 replace h := popS h hr1
 refine eN ?_
 replace h := oJ h
 first | subst h | rw [← h]
 exact (r1 trivial)
 replace h := cT (oL (oR (oR (oR (oR g1 g2) g3) g4) g5)) h
 refine eN ?_
 replace h := oJ h
 first | subst h | rw [← h]
 exact (r1 trivial)
 replace h := cT (oL (oL (oR (oR (oR g1 g2) g3) g4))) h
 refine eN ?_
 replace h := oJ h
 first | subst h | rw [← h]
 exact (r1 trivial)
 replace h := cT (oL (oL (oL (oR (oR g1 g2) g3)))) h
 refine eN ?_
 replace h := oJ h
 first | subst h | rw [← h]
 exact (r1 trivial)
 replace h := cT (oL (oL (oL (oL (oR g1 g2))))) h
 refine eN ?_
 replace h := oJ h
 first | subst h | rw [← h]
 exact (r1 trivial)
 replace h := cT (oL (oL (oL (oL (oL g1))))) h
 refine eN ?_
 replace h := oJ h
 first | subst h | rw [← h]
 exact (r1 trivial)

theorem c_halve_Validate (p0 : api_Halve) (r : Int) (h : halve_Validate p0 = some r) : Contract Tryz.prog 157 [.agg [.int .i64 p0.Now, .lst 1 false (List.map (eI .i64) p0.Sums)]] [] (.int .i64 r) [] := by
 refine contract_of_vcs tab_ok orders_ok Tryz.func157 Tryz.call157 (by kernel_rfl) 1 rfl rfl _ rfl ?_
 delta halve_Validate at h
 refine eN (eN (eN ?_))
 refine eX [.int .i64 (p0.Sums.length : Int)] (An (lenS (eI .i64) p0.Sums) ?_)
 refine An (fun g1 => ?_) (fun g1 => ?_)
 refine eX [.int .i64 (p0.Sums.length : Int)] (An (lenS (eI .i64) p0.Sums) ?_)
 refine An (fun g2 => ?_) (fun g2 => ?_)
 refine An (fun g3 => ?_) (fun g3 => ?_)
 refine An (fun g4 => ?_) (fun g4 => ?_)
 replace h := cT (oR (oR (oR g1 g2) g3) g4) h
 refine eN ?_
 replace h := oJ h
 first | subst h | rw [← h]
 exact (r1 trivial)
 replace h := cF (oR (oR (oR g1 g2) g3) g4) h
 refine eN ?_
 refine eX [.int .i64 (p0.Sums.length : Int)] (An (lenS (eI .i64) p0.Sums) ?_)
 replace h : halve_Validate_l3 p0 (0:Int) = some r := h
 delta halve_Validate_l3 at h
 obtain ⟨n1, h⟩ := loopS h
 refine eX (Sum.inl ⟨Int × Nat, fun q => [(.tmp 1, .av (.ptr 1 0)), (.tmp 26, .av (.lst 1 false (List.map (eI .i64) p0.Sums))), (.tmp 27, .av (.int .i64 (p0.Sums.length : Int))), (.tmp 28, .av (.int .i64 q.1)), (.box 1, .box [.int .i64 p0.Now, .lst 1 false (List.map (eI .i64) p0.Sums)])], fun q => loopN (fun (s : Int) => halve_Validate_l3s p0 s) q.2 q.1 = some r, fun q => q.2⟩) (An (eX [] (eX [] (eX ((0:Int), n1) (An h (r1 (fr (r3 (fr trivial)))))))) ?_)
 clear h
 refine fun q h => ?_
 obtain ⟨v3_28, n1⟩ := q
 obtain ⟨m1, x1, hm1, h, hl1, hr1⟩ := loopN_step h
 replace hm1 : n1 = m1 + 1 := hm1
 subst hm1
 replace h : halve_Validate_l3s p0 v3_28 = some x1 := h
 delta halve_Validate_l3s at h
 refine eN ?_
 refine An (fun g5 => ?_) (fun g5 => ?_)
 replace h := cT g5 h
 refine eN ?_
 obtain ⟨x5_1, e5_1, h⟩ := bS h
 refine eX [.int .i64 x5_1] (An (idx_map (eI .i64) e5_1) ?_)
 refine eN ?_
 refine eX (some (⟨Unit, fun _ => [(.tmp 1, .av (.ptr 1 0)), (.tmp 26, .av (.lst 1 false (List.map (eI .i64) p0.Sums))), (.tmp 27, .av (.int .i64 (p0.Sums.length : Int))), (.tmp 28, .av (.int .i64 v3_28)), (.tmp 48, .av (.sb (((decide (x5_1 < (0:Int))) || (decide (x5_1 > (1099511627776:Int)))) || ((x5_1 != (0:Int)) && (decide (v3_28 > p0.Now)))))), (.box 1, .box [.int .i64 p0.Now, .lst 1 false (List.map (eI .i64) p0.Sums)])], fun _ => True, fun _ => 0⟩, 1000000)) (An ?_ (fun _ _ => ?_))
 refine An (fun g6 => ?_) (fun g6 => ?_)
 refine An (fun g7 => ?_) (fun g7 => ?_)
 refine An (fun g8 => ?_) (fun g8 => ?_)
 exact eX [] (eX [] (eX () (An trivial (r1 (fr (r2 (An (Eq.symm (oR (oR g6 g7) (aR g8 rfl))) (r1 (fr trivial)))))))))
 exact eX [] (eX [] (eX () (An trivial (r1 (fr (r2 (An (Eq.symm (oR (oR g6 g7) (aL g8))) (r1 (fr trivial)))))))))
 exact eX [] (eX [] (eX () (An trivial (r1 (fr (r2 (An (Eq.symm (oL (oR g6 g7))) (r1 (fr trivial)))))))))
 exact eX [] (eX [] (eX () (An trivial (r1 (fr (r2 (An (Eq.symm (oL (oL g6))) (r1 (fr trivial)))))))))
 refine An (fun g9 => ?_) (fun g9 => ?_)
 replace h := cT g9 h
 refine eN ?_
 replace h := retS h hr1
 first | subst h | rw [← h]
 exact (r1 trivial)
 replace h := cF g9 h
 refine eN ?_
 exact eX [] (eX [] (eX ((w64 (v3_28 + (1:Int))), m1) (An (hl1 (w64 (v3_28 + (1:Int))) (oJ h).symm) (An (Nat.lt_succ_self m1) (r1 (fr (r3 (fr trivial))))))))
 replace h := cF g5 h
 replace h := popS h hr1
 refine eN ?_
 replace h := oJ h
 first | subst h | rw [← h]
 exact (r1 trivial)
 replace h := cT (oL (oR (oR g1 g2) g3)) h
 refine eN ?_
 replace h := oJ h
 first | subst h | rw [← h]
 exact (r1 trivial)
 replace h := cT (oL (oL (oR g1 g2))) h
 refine eN ?_
 replace h := oJ h
 first | subst h | rw [← h]
 exact (r1 trivial)
 replace h := cT (oL (oL (oL g1))) h
 refine eN ?_
 replace h := oJ h
 first | subst h | rw [← h]
 exact (r1 trivial)

theorem c_extreme_good' (p0 : Int) (p1 : Int) (p2 : Int) (r : Bool) (h : extreme_good p0 p1 p2 = r) : Contract Tryz.prog 135 [.int .i64 p0, .int .i64 p1, .int .i64 p2] [] (.sb r) [] := by
 refine contract_of_vcs tab_ok orders_ok Tryz.func135 Tryz.call135 (by kernel_rfl) 1 rfl rfl _ rfl ?_
 delta extreme_good at h
 refine eN (eN (eN ?_))
 refine An (fun g1 => ?_) (fun g1 => ?_)
 refine An (fun g2 => ?_) (fun g2 => ?_)
 refine An (fun g3 => ?_) (fun g3 => ?_)
 refine An (fun g4 => ?_) (fun g4 => ?_)
 refine An (fun g5 => ?_) (fun g5 => ?_)
 first | subst h | rw [← h]
 exact (An (Eq.symm (aR (aR (aR (aR (aR g1 g2) g3) g4) g5) rfl)) trivial)
 first | subst h | rw [← h]
 exact (An (Eq.symm (aL (aR (aR (aR (aR g1 g2) g3) g4) g5))) trivial)
 first | subst h | rw [← h]
 exact (An (Eq.symm (aL (aL (aR (aR (aR g1 g2) g3) g4)))) trivial)
 first | subst h | rw [← h]
 exact (An (Eq.symm (aL (aL (aL (aR (aR g1 g2) g3))))) trivial)
 first | subst h | rw [← h]
 exact (An (Eq.symm (aL (aL (aL (aL (aR g1 g2)))))) trivial)
 first | subst h | rw [← h]
 exact (An (Eq.symm (aL (aL (aL (aL (aL g1)))))) trivial)

theorem c_extreme_beats' (p0 : Bool) (p1 : Int) (p2 : Int) (r : Bool) (h : extreme_beats p0 p1 p2 = r) : Contract Tryz.prog 201 [.sb p0, .int .i64 p1, .int .i64 p2] [] (.sb r) [] := by
 refine contract_of_vcs tab_ok orders_ok Tryz.func201 Tryz.call201 (by kernel_rfl) 1 rfl rfl _ rfl ?_
 delta extreme_beats at h
 refine eN (eN ?_)
 refine An (fun g1 => ?_) (fun g1 => ?_)
 replace h := cT g1 h
 refine eN ?_
 first | subst h | rw [← h]
 exact (r1 trivial)
 replace h := cF g1 h
 refine eN ?_
 first | subst h | rw [← h]
 exact (r1 trivial)

theorem c_extreme_Validate (p0 : api_Extreme) (r : Int) (h : extreme_Validate p0 = some r) : Contract Tryz.prog 158 [.agg (enc_api_Extreme p0)] [] (.int .i64 r) [] := by
 refine contract_of_vcs tab_ok orders_ok Tryz.func158 Tryz.call158 (by kernel_rfl) 1 rfl rfl _ rfl ?_
 delta extreme_Validate at h
 refine eN (eN (eN ?_))
 refine eX (CK.plain _ _) (An (ContractT.wk (c_extreme_good' p0.W p0.Cap p0.Now _ rfl) (r3 trivial)) (An rfl ?_))
 refine An (fun g1 => ?_) (fun g1 => ?_)
 refine eX [.int .i64 (p0.Items.length : Int)] (An (lenS enc_api_Item p0.Items) ?_)
 refine An (fun g2 => ?_) (fun g2 => ?_)
 replace h := cT (oR g1 g2) h
 refine eN ?_
 replace h := oJ h
 first | subst h | rw [← h]
 exact (r1 trivial)
 replace h := cF (oR g1 g2) h
 refine eN ?_
 refine eX [.int .i64 (p0.Items.length : Int)] (An (lenS enc_api_Item p0.Items) ?_)
 replace h : extreme_Validate_l3 p0 (0:Int) = some r := h
 delta extreme_Validate_l3 at h
 obtain ⟨n1, h⟩ := loopS h
 refine eX (Sum.inl ⟨Int × Nat, fun q => [(.tmp 1, .av (.ptr 1 0)), (.tmp 22, .av (.lst 2 false (List.map enc_api_Item p0.Items))), (.tmp 23, .av (.int .i64 (p0.Items.length : Int))), (.tmp 24, .av (.int .i64 q.1)), (.box 1, .box (enc_api_Extreme p0))], fun q => loopN (fun (s : Int) => extreme_Validate_l3s p0 s) q.2 q.1 = some r, fun q => q.2⟩) (An (eX [] (eX [] (eX ((0:Int), n1) (An h (r1 (fr (r6 (fr trivial)))))))) ?_)
 clear h
 refine fun q h => ?_
 obtain ⟨v3_24, n1⟩ := q
 obtain ⟨m1, x1, hm1, h, hl1, hr1⟩ := loopN_step h
 replace hm1 : n1 = m1 + 1 := hm1
 subst hm1
 replace h : extreme_Validate_l3s p0 v3_24 = some x1 := h
 delta extreme_Validate_l3s at h
 refine eN ?_
 refine An (fun g3 => ?_) (fun g3 => ?_)
 replace h := cT g3 h
 refine eN ?_
 obtain ⟨x5_1, e5_1, h⟩ := bS h
 refine eX [.int .i64 x5_1.T, .int .i64 x5_1.V] (An (idx_map enc_api_Item e5_1) ?_)
 refine eN (eN ?_)
 refine eX (CK.plain _ _) (An (ContractT.wk (c_clock_Live' p0.Now p0.W x5_1.T _ rfl) (r3 trivial)) (An rfl ?_))
 refine An (fun g4 => ?_) (fun g4 => ?_)
 refine An (fun g5 => ?_) (fun g5 => ?_)
 refine An (fun g6 => ?_) (fun g6 => ?_)
 replace h := cT (oR (oR g4 g5) g6) h
 refine eN ?_
 replace h := retS h hr1
 first | subst h | rw [← h]
 exact (r1 trivial)
 replace h := cF (oR (oR g4 g5) g6) h
 refine eN ?_
 obtain ⟨x8_7, e8_7, h⟩ := bS h
 obtain ⟨x8_22, e8_22, h⟩ := bS h
 refine eX (some (⟨Unit, fun _ => [(.tmp 1, .av (.ptr 1 0)), (.tmp 22, .av (.lst 2 false (List.map enc_api_Item p0.Items))), (.tmp 23, .av (.int .i64 (p0.Items.length : Int))), (.tmp 24, .av (.int .i64 v3_24)), (.tmp 74, .av (.sb ((decide (v3_24 > (0:Int))) && ((decide (x8_7.T ≥ x5_1.T)) || (extreme_beats p0.Max x5_1.V x8_22.V))))), (.box 1, .box (enc_api_Extreme p0))], fun _ => True, fun _ => 0⟩, 1000000)) (An ?_ (fun _ _ => ?_))
 refine An (fun g7 => ?_) (fun g7 => ?_)
 refine eX [.int .i64 x8_7.T, .int .i64 x8_7.V] (An (idx_map enc_api_Item (gdT g7 e8_7)) ?_)
 refine An (fun g8 => ?_) (fun g8 => ?_)
 refine eX [.int .i64 x8_22.T, .int .i64 x8_22.V] (An (idx_map enc_api_Item (gdT (aR g7 (nE g8)) e8_22)) ?_)
 refine eX (CK.plain _ _) (An (ContractT.wk (c_extreme_beats' p0.Max x5_1.V x8_22.V _ rfl) (r3 trivial)) (An rfl ?_))
 exact eX [] (eX [] (eX () (An trivial (r1 (fr (r2 (An (Eq.symm (aR g7 (oR g8 rfl))) (r4 (fr trivial)))))))))
 exact eX [] (eX [] (eX () (An trivial (r1 (fr (r2 (An (Eq.symm (aR g7 (oL g8))) (r4 (fr trivial)))))))))
 exact eX [] (eX [] (eX () (An trivial (r1 (fr (r2 (An (Eq.symm (aL g7)) (r4 (fr trivial)))))))))
 refine An (fun g9 => ?_) (fun g9 => ?_)
 replace h := cT g9 h
 refine eN ?_
 replace h := retS h hr1
 first | subst h | rw [← h]
 exact (r1 trivial)
 replace h := cF g9 h
 refine eN ?_
 exact eX [] (eX [] (eX ((w64 (v3_24 + (1:Int))), m1) (An (hl1 (w64 (v3_24 + (1:Int))) (oJ h).symm) (An (Nat.lt_succ_self m1) (r1 (fr (r6 (fr trivial))))))))
 replace h := cT (oL (oR g4 g5)) h
 refine eN ?_
 replace h := retS h hr1
 first | subst h | rw [← h]
 exact (r1 trivial)
 replace h := cT (oL (oL g4)) h
 refine eN ?_
 replace h := retS h hr1
 first | subst h | rw [← h]
 exact (r1 trivial)
 replace h := cF g3 h
 replace h := popS h hr1
 refine eN ?_
 replace h := oJ h
 first | subst h | rw [← h]
 exact (r1 trivial)
 replace h := cT (oL g1) h
 refine eN ?_
 replace h := oJ h
 first | subst h | rw [← h]
 exact (r1 trivial)

theorem c_chain_Validate (p0 : api_Chain) (r : Int) (h : chain_Validate p0 = some r) : Contract Tryz.prog 233 [.agg (enc_api_Chain p0)] [] (.int .i64 r) [] := by
 refine contract_of_vcs tab_ok orders_ok Tryz.func233 Tryz.call233 (by kernel_rfl) 1 rfl rfl _ rfl ?_
 delta chain_Validate at h
 refine eN (eN (eN ?_))
 refine An (fun g1 => ?_) (fun g1 => ?_)
 refine An (fun g2 => ?_) (fun g2 => ?_)
 refine An (fun g3 => ?_) (fun g3 => ?_)
 refine An (fun g4 => ?_) (fun g4 => ?_)
 refine An (fun g5 => ?_) (fun g5 => ?_)
 refine An (fun g6 => ?_) (fun g6 => ?_)
 refine eX [.int .i64 (p0.Links.length : Int)] (An (lenS enc_api_Link p0.Links) ?_)
 refine An (fun g7 => ?_) (fun g7 => ?_)
 replace h := cT (oR (oR (oR (oR (oR (oR g1 g2) g3) g4) g5) g6) g7) h
 refine eN ?_
 replace h := oJ h
 first | subst h | rw [← h]
 exact (r1 trivial)
 replace h := cF (oR (oR (oR (oR (oR (oR g1 g2) g3) g4) g5) g6) g7) h
 refine eN ?_
 refine An (fun g8 => ?_) (fun g8 => ?_)
 replace h := cT g8 h
 refine eN (eN ?_)
 refine eX [.int .i64 (p0.Links.length : Int)] (An (lenS enc_api_Link p0.Links) ?_)
 refine An (fun g9 => ?_) (fun g9 => ?_)
 refine An (fun g10 => ?_) (fun g10 => ?_)
 replace h := cT (oR g9 g10) h
 refine eN ?_
 replace h := oJ h
 first | subst h | rw [← h]
 exact (r1 trivial)
 replace h := cF (oR g9 g10) h
 refine eN ?_
 replace h := oJ h
 first | subst h | rw [← h]
 exact (r1 trivial)
 replace h := cT (oL g9) h
 refine eN ?_
 replace h := oJ h
 first | subst h | rw [← h]
 exact (r1 trivial)
 replace h := cF g8 h
 refine eN ?_
 refine eX [.int .i64 (p0.Links.length : Int)] (An (lenS enc_api_Link p0.Links) ?_)
 refine An (fun g11 => ?_) (fun g11 => ?_)
 replace h := cT g11 h
 refine eN ?_
 replace h := oJ h
 first | subst h | rw [← h]
 exact (r1 trivial)
 replace h := cF g11 h
 refine eN ?_
 refine eX [.int .i64 (p0.Links.length : Int)] (An (lenS enc_api_Link p0.Links) ?_)
 replace h : chain_Validate_l6 p0 (0:Int) = some r := h
 delta chain_Validate_l6 at h
 obtain ⟨n1, h⟩ := loopS h
 refine eX (Sum.inl ⟨Int × Nat, fun q => [(.tmp 1, .av (.ptr 1 0)), (.tmp 58, .av (.lst 2 false (List.map enc_api_Link p0.Links))), (.tmp 59, .av (.int .i64 (p0.Links.length : Int))), (.tmp 60, .av (.int .i64 q.1)), (.box 1, .box (enc_api_Chain p0))], fun q => loopN (fun (s : Int) => chain_Validate_l6s p0 s) q.2 q.1 = some r, fun q => q.2⟩) (An (eX [] (eX [] (eX ((0:Int), n1) (An h (r1 (fr (r6 (fr trivial)))))))) ?_)
 clear h
 refine fun q h => ?_
 obtain ⟨v6_60, n1⟩ := q
 obtain ⟨m1, x1, hm1, h, hl1, hr1⟩ := loopN_step h
 replace hm1 : n1 = m1 + 1 := hm1
 subst hm1
 replace h : chain_Validate_l6s p0 v6_60 = some x1 := h
 delta chain_Validate_l6s at h
 refine eN ?_
 refine An (fun g12 => ?_) (fun g12 => ?_)
 replace h := cT g12 h
 refine eN ?_
 obtain ⟨x11_1, e11_1, h⟩ := bS h
 refine eX [.int .i64 x11_1.I, .int .i64 x11_1.V] (An (idx_map enc_api_Link e11_1) ?_)
 refine eN (eN ?_)
 refine An (fun g13 => ?_) (fun g13 => ?_)
 refine An (fun g14 => ?_) (fun g14 => ?_)
 refine An (fun g15 => ?_) (fun g15 => ?_)
 refine An (fun g16 => ?_) (fun g16 => ?_)
 refine An (fun g17 => ?_) (fun g17 => ?_)
 replace h := cT (oR (oR (oR (oR g13 g14) g15) g16) g17) h
 refine eN ?_
 replace h := retS h hr1
 first | subst h | rw [← h]
 exact (r1 trivial)
 replace h := cF (oR (oR (oR (oR g13 g14) g15) g16) g17) h
 refine eN ?_
 obtain ⟨x14_9, e14_9, h⟩ := bS h
 obtain ⟨x14_20, e14_20, h⟩ := bS h
 refine eX (some (⟨Unit, fun _ => [(.tmp 1, .av (.ptr 1 0)), (.tmp 58, .av (.lst 2 false (List.map enc_api_Link p0.Links))), (.tmp 59, .av (.int .i64 (p0.Links.length : Int))), (.tmp 60, .av (.int .i64 v6_60)), (.tmp 123, .av (.sb ((decide (v6_60 > (0:Int))) && ((decide (x11_1.I ≤ x14_9.I)) || (decide (x11_1.I > (w64 (x14_20.I + p0.W)))))))), (.box 1, .box (enc_api_Chain p0))], fun _ => True, fun _ => 0⟩, 1000000)) (An ?_ (fun _ _ => ?_))
 refine An (fun g18 => ?_) (fun g18 => ?_)
 refine eX [.int .i64 x14_9.I, .int .i64 x14_9.V] (An (idx_map enc_api_Link (gdT g18 e14_9)) ?_)
 refine An (fun g19 => ?_) (fun g19 => ?_)
 refine eX [.int .i64 x14_20.I, .int .i64 x14_20.V] (An (idx_map enc_api_Link (gdT (aR g18 (nE g19)) e14_20)) ?_)
 exact eX [] (eX [] (eX () (An trivial (r1 (fr (r2 (An (Eq.symm (aR g18 (oR g19 rfl))) (r4 (fr trivial)))))))))
 exact eX [] (eX [] (eX () (An trivial (r1 (fr (r2 (An (Eq.symm (aR g18 (oL g19))) (r4 (fr trivial)))))))))
 exact eX [] (eX [] (eX () (An trivial (r1 (fr (r2 (An (Eq.symm (aL g18)) (r4 (fr trivial)))))))))
 refine An (fun g20 => ?_) (fun g20 => ?_)
 replace h := cT g20 h
 refine eN ?_
 replace h := retS h hr1
 first | subst h | rw [← h]
 exact (r1 trivial)
 replace h := cF g20 h
 refine eN ?_
 exact eX [] (eX [] (eX ((w64 (v6_60 + (1:Int))), m1) (An (hl1 (w64 (v6_60 + (1:Int))) (oJ h).symm) (An (Nat.lt_succ_self m1) (r1 (fr (r6 (fr trivial))))))))
 replace h := cT (oL (oR (oR (oR g13 g14) g15) g16)) h
 refine eN ?_
 replace h := retS h hr1
 first | subst h | rw [← h]
 exact (r1 trivial)
 replace h := cT (oL (oL (oR (oR g13 g14) g15))) h
 refine eN ?_
 replace h := retS h hr1
 first | subst h | rw [← h]
 exact (r1 trivial)
 replace h := cT (oL (oL (oL (oR g13 g14)))) h
 refine eN ?_
 replace h := retS h hr1
 first | subst h | rw [← h]
 exact (r1 trivial)
 replace h := cT (oL (oL (oL (oL g13)))) h
 refine eN ?_
 replace h := retS h hr1
 first | subst h | rw [← h]
 exact (r1 trivial)
 replace h := cF g12 h
 replace h := popS h hr1
 refine eN ?_
 obtain ⟨x17_14, e17_14, h⟩ := bS h
 refine eN ?_
 refine An (fun g21 => ?_) (fun g21 => ?_)
 refine eX [.int .i64 (p0.Links.length : Int)] (An (lenS enc_api_Link p0.Links) ?_)
 refine eX [.int .i64 x17_14.I, .int .i64 x17_14.V] (An (idx_map enc_api_Link (gdT (nE g21) e17_14)) ?_)
 refine An (fun g22 => ?_) (fun g22 => ?_)
 replace h := cT (oR g21 g22) h
 refine eN ?_
 replace h := oJ h
 first | subst h | rw [← h]
 exact (r1 trivial)
 replace h := cF (oR g21 g22) h
 refine eN ?_
 replace h := oJ h
 first | subst h | rw [← h]
 exact (r1 trivial)
 replace h := cT (oL g21) h
 refine eN ?_
 replace h := oJ h
 first | subst h | rw [← h]
 exact (r1 trivial)
 replace h := cT (oL (oR (oR (oR (oR (oR g1 g2) g3) g4) g5) g6)) h
 refine eN ?_
 replace h := oJ h
 first | subst h | rw [← h]
 exact (r1 trivial)
 replace h := cT (oL (oL (oR (oR (oR (oR g1 g2) g3) g4) g5))) h
 refine eN ?_
 replace h := oJ h
 first | subst h | rw [← h]
 exact (r1 trivial)
 replace h := cT (oL (oL (oL (oR (oR (oR g1 g2) g3) g4)))) h
 refine eN ?_
 replace h := oJ h
 first | subst h | rw [← h]
 exact (r1 trivial)
 replace h := cT (oL (oL (oL (oL (oR (oR g1 g2) g3))))) h
 refine eN ?_
 replace h := oJ h
 first | subst h | rw [← h]
 exact (r1 trivial)
 replace h := cT (oL (oL (oL (oL (oL (oR g1 g2)))))) h
 refine eN ?_
 replace h := oJ h
 first | subst h | rw [← h]
 exact (r1 trivial)
 replace h := cT (oL (oL (oL (oL (oL (oL g1)))))) h
 refine eN ?_
 replace h := oJ h
 first | subst h | rw [← h]
 exact (r1 trivial)

theorem c_sample_Validate (p0 : api_Sample) (r : Int) (h : sample_Validate p0 = some r) : Contract Tryz.prog 159 [.agg [.lst 5 false (List.map enc_api_Chain p0.Chains)]] [] (.int .i64 r) [] := by
 refine contract_of_vcs tab_ok orders_ok Tryz.func159 Tryz.call159 (by kernel_rfl) 1 rfl rfl _ rfl ?_
 delta sample_Validate at h
 refine eN (eN (eN ?_))
 refine eX [.int .i64 (p0.Chains.length : Int)] (An (lenS enc_api_Chain p0.Chains) ?_)
 refine An (fun g1 => ?_) (fun g1 => ?_)
 refine eX [.int .i64 (p0.Chains.length : Int)] (An (lenS enc_api_Chain p0.Chains) ?_)
 refine An (fun g2 => ?_) (fun g2 => ?_)
 replace h := cT (oR g1 g2) h
 refine eN ?_
 replace h := oJ h
 first | subst h | rw [← h]
 exact (r1 trivial)
 replace h := cF (oR g1 g2) h
 refine eN ?_
 refine eX [.int .i64 (p0.Chains.length : Int)] (An (lenS enc_api_Chain p0.Chains) ?_)
 replace h : sample_Validate_l3 p0 (0:Int) = some r := h
 delta sample_Validate_l3 at h
 obtain ⟨n1, h⟩ := loopS h
 refine eX (Sum.inl ⟨Int × Nat, fun q => [(.tmp 1, .av (.ptr 1 0)), (.tmp 17, .av (.lst 5 false (List.map enc_api_Chain p0.Chains))), (.tmp 18, .av (.int .i64 (p0.Chains.length : Int))), (.tmp 19, .av (.int .i64 q.1)), (.box 1, .box [.lst 5 false (List.map enc_api_Chain p0.Chains)])], fun q => loopN (fun (s : Int) => sample_Validate_l3s p0 s) q.2 q.1 = some r, fun q => q.2⟩) (An (eX [] (eX [] (eX ((0:Int), n1) (An h (r1 (fr (r2 (fr trivial)))))))) ?_)
 clear h
 refine fun q h => ?_
 obtain ⟨v3_19, n1⟩ := q
 obtain ⟨m1, x1, hm1, h, hl1, hr1⟩ := loopN_step h
 replace hm1 : n1 = m1 + 1 := hm1
 subst hm1
 replace h : sample_Validate_l3s p0 v3_19 = some x1 := h
 delta sample_Validate_l3s at h
 refine eN ?_
 refine An (fun g3 => ?_) (fun g3 => ?_)
 replace h := cT g3 h
 refine eN ?_
 obtain ⟨x5_0, e5_0, h⟩ := bS h
 refine eX (enc_api_Chain x5_0) (An (idx_map enc_api_Chain e5_0) ?_)
 refine eN ?_
 obtain ⟨x6_2, e6_2, h⟩ := bS h
 refine eX (enc_api_Chain x6_2) (An (idx_map enc_api_Chain e6_2) ?_)
 refine eN ?_
 obtain ⟨y7_1, e7_1, h⟩ := bS h
 refine eN ?_
 refine eX (CK.plain _ _) (An (ContractT.wk (c_chain_Validate x5_0 y7_1 e7_1) (r4 (fr trivial))) (An rfl ?_))
 refine An (fun g4 => ?_) (fun g4 => ?_)
 refine An (fun g5 => ?_) (fun g5 => ?_)
 refine An (fun g6 => ?_) (fun g6 => ?_)
 refine An (fun g7 => ?_) (fun g7 => ?_)
 replace h := cT (oR (oR (oR g4 g5) g6) g7) h
 refine eN ?_
 replace h := retS h hr1
 first | subst h | rw [← h]
 exact (r1 trivial)
 replace h := cF (oR (oR (oR g4 g5) g6) g7) h
 refine eN ?_
 exact eX [] (eX [] (eX ((w64 (v3_19 + (1:Int))), m1) (An (hl1 (w64 (v3_19 + (1:Int))) (oJ h).symm) (An (Nat.lt_succ_self m1) (r1 (fr (r2 (fr trivial))))))))
 replace h := cT (oL (oR (oR g4 g5) g6)) h
 refine eN ?_
 replace h := retS h hr1
 first | subst h | rw [← h]
 exact (r1 trivial)
 replace h := cT (oL (oL (oR g4 g5))) h
 refine eN ?_
 replace h := retS h hr1
 first | subst h | rw [← h]
 exact (r1 trivial)
 replace h := cT (oL (oL (oL g4))) h
 refine eN ?_
 replace h := retS h hr1
 first | subst h | rw [← h]
 exact (r1 trivial)
 replace h := cF g3 h
 replace h := popS h hr1
 refine eN ?_
 replace h := oJ h
 first | subst h | rw [← h]
 exact (r1 trivial)
 replace h := cT (oL g1) h
 refine eN ?_
 replace h := oJ h
 first | subst h | rw [← h]
 exact (r1 trivial)

theorem c_summary_most (p0 : Int) (p1 : Int) (r : Int) (h : summary_most p0 p1 = some r) : Contract Tryz.prog 204 [.int .i64 p0, .int .i64 p1] [] (.int .i64 r) [] := by
 refine contract_of_vcs tab_ok orders_ok Tryz.func204 Tryz.call204 (by kernel_rfl) 1 rfl rfl _ rfl ?_
 delta summary_most at h
 refine eN (eN ?_)
 obtain ⟨k1_2, h⟩ := ckS h
 refine An (oD k1_2) ?_
 replace h := oJ h
 first | subst h | rw [← h]
 exact (r1 trivial)

theorem c_summary_Validate (p0 : api_Summary) (r : Int) (h : summary_Validate p0 = some r) : Contract Tryz.prog 160 [.agg (enc_api_Summary p0)] [] (.int .i64 r) [] := by
 refine contract_of_vcs tab_ok orders_ok Tryz.func160 Tryz.call160 (by kernel_rfl) 1 rfl rfl _ rfl ?_
 delta summary_Validate at h
 refine eN (eN (eN ?_))
 refine An (fun g1 => ?_) (fun g1 => ?_)
 refine An (fun g2 => ?_) (fun g2 => ?_)
 refine An (fun g3 => ?_) (fun g3 => ?_)
 refine An (fun g4 => ?_) (fun g4 => ?_)
 refine An (fun g5 => ?_) (fun g5 => ?_)
 refine An (fun g6 => ?_) (fun g6 => ?_)
 refine eX [.int .i64 (p0.Tuples.length : Int)] (An (lenS enc_api_Tuple p0.Tuples) ?_)
 refine An (fun g7 => ?_) (fun g7 => ?_)
 replace h := cT (oR (oR (oR (oR (oR (oR g1 g2) g3) g4) g5) g6) g7) h
 refine eN ?_
 replace h := oJ h
 first | subst h | rw [← h]
 exact (r1 trivial)
 replace h := cF (oR (oR (oR (oR (oR (oR g1 g2) g3) g4) g5) g6) g7) h
 refine eN ?_
 refine An (fun g8 => ?_) (fun g8 => ?_)
 replace h := cT g8 h
 refine eN ?_
 refine eX [.int .i64 (p0.Tuples.length : Int)] (An (lenS enc_api_Tuple p0.Tuples) ?_)
 refine An (fun g9 => ?_) (fun g9 => ?_)
 replace h := cT g9 h
 refine eN ?_
 replace h := oJ h
 first | subst h | rw [← h]
 exact (r1 trivial)
 replace h := cF g9 h
 refine eN ?_
 replace h := oJ h
 first | subst h | rw [← h]
 exact (r1 trivial)
 replace h := cF g8 h
 refine eN ?_
 refine eX [.int .i64 (p0.Tuples.length : Int)] (An (lenS enc_api_Tuple p0.Tuples) ?_)
 refine An (fun g10 => ?_) (fun g10 => ?_)
 replace h := cT g10 h
 refine eN ?_
 replace h := oJ h
 first | subst h | rw [← h]
 exact (r1 trivial)
 replace h := cF g10 h
 refine eN ?_
 obtain ⟨y9_4, e9_4, h⟩ := bS h
 refine eX (CK.plain _ _) (An (ContractT.wk (c_summary_most p0.N p0.K y9_4 e9_4) (r2 trivial)) (An rfl ?_))
 refine eN ?_
 refine eX [.int .i64 (p0.Tuples.length : Int)] (An (lenS enc_api_Tuple p0.Tuples) ?_)
 replace h : summary_Validate_l6 p0 y9_4 (0:Int) (0:Int) = some r := h
 delta summary_Validate_l6 at h
 obtain ⟨n1, h⟩ := loopS h
 refine eX (Sum.inl ⟨(Int × Int) × Nat, fun q => [(.tmp 1, .av (.ptr 1 0)), (.tmp 3, .av (.int .i64 y9_4)), (.tmp 4, .av (.int .i64 q.1.1)), (.tmp 62, .av (.lst 3 false (List.map enc_api_Tuple p0.Tuples))), (.tmp 63, .av (.int .i64 (p0.Tuples.length : Int))), (.tmp 64, .av (.int .i64 q.1.2)), (.box 1, .box (enc_api_Summary p0))], fun q => loopN (fun (s : (Int × Int)) => summary_Validate_l6s p0 y9_4 s.1 s.2) q.2 q.1 = some r, fun q => q.2⟩) (An (eX [] (eX [] (eX (((0:Int), (0:Int)), n1) (An h (r3 (fr (r5 (fr trivial)))))))) ?_)
 clear h
 refine fun q h => ?_
 obtain ⟨⟨v6_4, v6_64⟩, n1⟩ := q
 obtain ⟨m1, x1, hm1, h, hl1, hr1⟩ := loopN_step h
 replace hm1 : n1 = m1 + 1 := hm1
 subst hm1
 replace h : summary_Validate_l6s p0 y9_4 v6_4 v6_64 = some x1 := h
 delta summary_Validate_l6s at h
 refine eN ?_
 refine An (fun g11 => ?_) (fun g11 => ?_)
 replace h := cT g11 h
 refine eN ?_
 obtain ⟨x12_1, e12_1, h⟩ := bS h
 refine eX [.int .i64 x12_1.V, .int .i64 x12_1.G, .int .i64 x12_1.D] (An (idx_map enc_api_Tuple e12_1) ?_)
 refine eN ?_
 obtain ⟨x13_16, e13_16, h⟩ := bS h
 refine eX (some (⟨Unit, fun _ => [(.tmp 1, .av (.ptr 1 0)), (.tmp 3, .av (.int .i64 y9_4)), (.tmp 4, .av (.int .i64 v6_4)), (.tmp 6, .av (.ptr 1796 0)), (.tmp 62, .av (.lst 3 false (List.map enc_api_Tuple p0.Tuples))), (.tmp 63, .av (.int .i64 (p0.Tuples.length : Int))), (.tmp 64, .av (.int .i64 v6_64)), (.tmp 92, .av (.sb (((decide (x12_1.V < (-4096:Int))) || (decide (x12_1.V > (4096:Int)))) || ((decide (v6_64 > (0:Int))) && (decide (x13_16.V > x12_1.V)))))), (.box 1, .box (enc_api_Summary p0)), (.box 1796, .box [.int .i64 x12_1.V, .int .i64 x12_1.G, .int .i64 x12_1.D])], fun _ => True, fun _ => 0⟩, 1000000)) (An ?_ (fun _ _ => ?_))
 refine An (fun g12 => ?_) (fun g12 => ?_)
 refine An (fun g13 => ?_) (fun g13 => ?_)
 refine An (fun g14 => ?_) (fun g14 => ?_)
 refine eX [.int .i64 x13_16.V, .int .i64 x13_16.G, .int .i64 x13_16.D] (An (idx_map enc_api_Tuple (gdT (aR (nE (oR g12 g13)) g14) e13_16)) ?_)
 exact eX [] (eX [] (eX () (An trivial (r3 (fr (r2 (An (Eq.symm (oR (oR g12 g13) (aR g14 rfl))) (r3 (fr (r3 trivial))))))))))
 exact eX [] (eX [] (eX () (An trivial (r3 (fr (r2 (An (Eq.symm (oR (oR g12 g13) (aL g14))) (r3 (fr (r3 trivial))))))))))
 exact eX [] (eX [] (eX () (An trivial (r3 (fr (r2 (An (Eq.symm (oL (oR g12 g13))) (r3 (fr (r3 trivial))))))))))
 exact eX [] (eX [] (eX () (An trivial (r3 (fr (r2 (An (Eq.symm (oL (oL g12))) (r3 (fr (r3 trivial))))))))))
 refine An (fun g15 => ?_) (fun g15 => ?_)
 replace h := cT g15 h
 refine eN ?_
 replace h := retS h hr1
 first | subst h | rw [← h]
 exact (r1 trivial)
 replace h := cF g15 h
 refine eN (eN ?_)
 refine An (fun g16 => ?_) (fun g16 => ?_)
 refine An (fun g17 => ?_) (fun g17 => ?_)
 refine An (fun g18 => ?_) (fun g18 => ?_)
 refine An (fun g19 => ?_) (fun g19 => ?_)
 replace h := cT (oR (oR (oR g16 g17) g18) g19) h
 refine eN ?_
 replace h := retS h hr1
 first | subst h | rw [← h]
 exact (r1 trivial)
 replace h := cF (oR (oR (oR g16 g17) g18) g19) h
 refine eN (eN ?_)
 exact eX [] (eX [] (eX (((w64 (v6_4 + x12_1.G)), (w64 (v6_64 + (1:Int)))), m1) (An (hl1 ((w64 (v6_4 + x12_1.G)), (w64 (v6_64 + (1:Int)))) (oJ h).symm) (An (Nat.lt_succ_self m1) (r3 (fr (r5 (fr trivial))))))))
 replace h := cT (oL (oR (oR g16 g17) g18)) h
 refine eN ?_
 replace h := retS h hr1
 first | subst h | rw [← h]
 exact (r1 trivial)
 replace h := cT (oL (oL (oR g16 g17))) h
 refine eN ?_
 replace h := retS h hr1
 first | subst h | rw [← h]
 exact (r1 trivial)
 replace h := cT (oL (oL (oL g16))) h
 refine eN ?_
 replace h := retS h hr1
 first | subst h | rw [← h]
 exact (r1 trivial)
 replace h := cF g11 h
 replace h := popS h hr1
 refine eN ?_
 obtain ⟨x19_2, e19_2, h⟩ := bS h
 obtain ⟨x19_10, e19_10, h⟩ := bS h
 refine eX [.int .i64 x19_2.V, .int .i64 x19_2.G, .int .i64 x19_2.D] (An (idx_map enc_api_Tuple e19_2) ?_)
 refine eX [.int .i64 (p0.Tuples.length : Int)] (An (lenS enc_api_Tuple p0.Tuples) ?_)
 refine eX [.int .i64 x19_10.V, .int .i64 x19_10.G, .int .i64 x19_10.D] (An (idx_map enc_api_Tuple e19_10) ?_)
 refine eN (eN ?_)
 refine An (fun g20 => ?_) (fun g20 => ?_)
 refine An (fun g21 => ?_) (fun g21 => ?_)
 refine An (fun g22 => ?_) (fun g22 => ?_)
 refine An (fun g23 => ?_) (fun g23 => ?_)
 replace h := cT (oR (oR (oR g20 g21) g22) g23) h
 refine eN ?_
 replace h := oJ h
 first | subst h | rw [← h]
 exact (r1 trivial)
 replace h := cF (oR (oR (oR g20 g21) g22) g23) h
 refine eN ?_
 replace h := oJ h
 first | subst h | rw [← h]
 exact (r1 trivial)
 replace h := cT (oL (oR (oR g20 g21) g22)) h
 refine eN ?_
 replace h := oJ h
 first | subst h | rw [← h]
 exact (r1 trivial)
 replace h := cT (oL (oL (oR g20 g21))) h
 refine eN ?_
 replace h := oJ h
 first | subst h | rw [← h]
 exact (r1 trivial)
 replace h := cT (oL (oL (oL g20))) h
 refine eN ?_
 replace h := oJ h
 first | subst h | rw [← h]
 exact (r1 trivial)
 replace h := cT (oL (oR (oR (oR (oR (oR g1 g2) g3) g4) g5) g6)) h
 refine eN ?_
 replace h := oJ h
 first | subst h | rw [← h]
 exact (r1 trivial)
 replace h := cT (oL (oL (oR (oR (oR (oR g1 g2) g3) g4) g5))) h
 refine eN ?_
 replace h := oJ h
 first | subst h | rw [← h]
 exact (r1 trivial)
 replace h := cT (oL (oL (oL (oR (oR (oR g1 g2) g3) g4)))) h
 refine eN ?_
 replace h := oJ h
 first | subst h | rw [← h]
 exact (r1 trivial)
 replace h := cT (oL (oL (oL (oL (oR (oR g1 g2) g3))))) h
 refine eN ?_
 replace h := oJ h
 first | subst h | rw [← h]
 exact (r1 trivial)
 replace h := cT (oL (oL (oL (oL (oL (oR g1 g2)))))) h
 refine eN ?_
 replace h := oJ h
 first | subst h | rw [← h]
 exact (r1 trivial)
 replace h := cT (oL (oL (oL (oL (oL (oL g1)))))) h
 refine eN ?_
 replace h := oJ h
 first | subst h | rw [← h]
 exact (r1 trivial)

theorem c_quantile_good' (p0 : Int) (p1 : Int) (p2 : Int) (p3 : Int) (r : Bool) (h : quantile_good p0 p1 p2 p3 = r) : Contract Tryz.prog 137 [.int .i64 p0, .int .i64 p1, .int .i64 p2, .int .i64 p3] [] (.sb r) [] := by
 refine contract_of_vcs tab_ok orders_ok Tryz.func137 Tryz.call137 (by kernel_rfl) 1 rfl rfl _ rfl ?_
 delta quantile_good at h
 refine eN (eN (eN ?_))
 refine An (fun g1 => ?_) (fun g1 => ?_)
 refine An (fun g2 => ?_) (fun g2 => ?_)
 refine An (fun g3 => ?_) (fun g3 => ?_)
 refine An (fun g4 => ?_) (fun g4 => ?_)
 refine An (fun g5 => ?_) (fun g5 => ?_)
 refine An (fun g6 => ?_) (fun g6 => ?_)
 refine An (fun g7 => ?_) (fun g7 => ?_)
 first | subst h | rw [← h]
 exact (An (Eq.symm (aR (aR (aR (aR (aR (aR (aR g1 g2) g3) g4) g5) g6) g7) rfl)) trivial)
 first | subst h | rw [← h]
 exact (An (Eq.symm (aL (aR (aR (aR (aR (aR (aR g1 g2) g3) g4) g5) g6) g7))) trivial)
 first | subst h | rw [← h]
 exact (An (Eq.symm (aL (aL (aR (aR (aR (aR (aR g1 g2) g3) g4) g5) g6)))) trivial)
 first | subst h | rw [← h]
 exact (An (Eq.symm (aL (aL (aL (aR (aR (aR (aR g1 g2) g3) g4) g5))))) trivial)
 first | subst h | rw [← h]
 exact (An (Eq.symm (aL (aL (aL (aL (aR (aR (aR g1 g2) g3) g4)))))) trivial)
 first | subst h | rw [← h]
 exact (An (Eq.symm (aL (aL (aL (aL (aL (aR (aR g1 g2) g3))))))) trivial)
 first | subst h | rw [← h]
 exact (An (Eq.symm (aL (aL (aL (aL (aL (aL (aR g1 g2)))))))) trivial)
 first | subst h | rw [← h]
 exact (An (Eq.symm (aL (aL (aL (aL (aL (aL (aL g1)))))))) trivial)

theorem c_math_bits_Len64 (p0 : Int) (r : Int) (h : math_bits_Len64 p0 = some r) : Contract Tryz.prog 289 [.int .u64 p0] [] (.int .i64 r) [] := by
  unfold math_bits_Len64 at h
  obtain ⟨k, h⟩ := ckS h
  obtain ⟨k1, k2⟩ := oD k
  cases h
  exact calls_contract1 Tryz.call289 fun w => walk_Len64 p0 w k1 k2

theorem c_num_Bits (p0 : Int) (r : Int) (h : num_Bits p0 = some r) : Contract Tryz.prog 258 [.int .i64 p0] [] (.int .i64 r) [] := by
 refine contract_of_vcs tab_ok orders_ok Tryz.func258 Tryz.call258 (by kernel_rfl) 1 rfl rfl _ rfl ?_
 delta num_Bits at h
 refine eN (eN ?_)
 refine An (fun g1 => ?_) (fun g1 => ?_)
 replace h := cT g1 h
 refine eN ?_
 replace h := oJ h
 first | subst h | rw [← h]
 exact (r1 trivial)
 replace h := cF g1 h
 refine eN ?_
 obtain ⟨y3_2, e3_2, h⟩ := bS h
 refine eX (CK.plain _ _) (An (ContractT.wk (c_math_bits_Len64 (wu64 p0) y3_2 e3_2) (r1 trivial)) (An rfl ?_))
 replace h := oJ h
 first | subst h | rw [← h]
 exact (r1 trivial)

theorem c_quantile_Size (p0 : Int) (p1 : Int) (r : Int) (h : quantile_Size p0 p1 = some r) : Contract Tryz.prog 207 [.int .i64 p0, .int .i64 p1] [] (.int .i64 r) [] := by
 refine contract_of_vcs tab_ok orders_ok Tryz.func207 Tryz.call207 (by kernel_rfl) 1 rfl rfl _ rfl ?_
 delta quantile_Size at h
 refine eN (eN ?_)
 refine eX (CK.plain _ _) (An (ContractT.wk (c_quantile_good' (1:Int) p0 p1 (0:Int) _ rfl) (r4 trivial)) (An rfl ?_))
 refine An (fun g1 => ?_) (fun g1 => ?_)
 replace h := cT g1 h
 refine eN ?_
 replace h := oJ h
 first | subst h | rw [← h]
 exact (r1 trivial)
 replace h := cF g1 h
 refine eN ?_
 obtain ⟨y3_3, e3_3, h⟩ := bS h
 refine eX (CK.plain _ _) (An (ContractT.wk (c_num_Bits p1 y3_3 e3_3) (r1 trivial)) (An rfl ?_))
 replace h := oJ h
 first | subst h | rw [← h]
 exact (r1 trivial)

theorem c_blocks_plain (p0 : (List api_Block)) (r : (List api_Bucket)) (h : blocks_plain p0 = some r) : Contract Tryz.prog 254 [.lst 5 false (List.map enc_api_Block p0)] [] (.lst 2 false (List.map enc_api_Bucket r)) [] := by
 refine contract_of_vcs tab_ok orders_ok Tryz.func254 Tryz.call254 (by kernel_rfl) 1 rfl rfl _ rfl ?_
 delta blocks_plain at h
 refine eN (eN (eN ?_))
 refine eX [.int .i64 (p0.length : Int)] (An (lenS enc_api_Block p0) ?_)
 replace h : blocks_plain_l2 p0 ([] : List api_Bucket) (0:Int) = some r := h
 delta blocks_plain_l2 at h
 obtain ⟨n1, h⟩ := loopS h
 refine eX (Sum.inl ⟨((List api_Bucket) × Int) × Nat, fun q => [(.tmp 3, .av (.own 768)), (.tmp 6, .av (.lst 5 false (List.map enc_api_Block p0))), (.tmp 7, .av (.int .i64 (p0.length : Int))), (.tmp 8, .av (.int .i64 q.1.2)), (.tok 768, .tok 221 2 (List.map enc_api_Bucket q.1.1))], fun q => loopN (fun (s : ((List api_Bucket) × Int)) => blocks_plain_l2s p0 s.1 s.2) q.2 q.1 = some r, fun q => q.2⟩) (An (eX [(768, none)] (eX [] (eX ((([] : List api_Bucket), (0:Int)), n1) (An h (r1 (fr (r3 trivial))))))) ?_)
 clear h
 refine fun q h => ?_
 obtain ⟨⟨v2_3, v2_8⟩, n1⟩ := q
 obtain ⟨m1, x1, hm1, h, hl1, hr1⟩ := loopN_step h
 replace hm1 : n1 = m1 + 1 := hm1
 subst hm1
 replace h : blocks_plain_l2s p0 v2_3 v2_8 = some x1 := h
 delta blocks_plain_l2s at h
 refine eN ?_
 refine An (fun g1 => ?_) (fun g1 => ?_)
 replace h := cT g1 h
 refine eN ?_
 obtain ⟨x4_0, e4_0, h⟩ := bS h
 refine eX (enc_api_Block x4_0) (An (idx_map enc_api_Block e4_0) ?_)
 refine eN ?_
 obtain ⟨k5_7, h⟩ := ckS h
 refine An (kA (oD k5_7)) ?_
 refine eN ?_
 exact eX [(768, some 1288)] (eX [] (eX (((v2_3 ++ [(api_Bucket.mk x4_0.T x4_0.Level)]), (w64 (v2_8 + (1:Int)))), m1) (An (hl1 ((v2_3 ++ [(api_Bucket.mk x4_0.T x4_0.Level)]), (w64 (v2_8 + (1:Int)))) (oJ h).symm) (An (Nat.lt_succ_self m1) (r1 (fr (r2 (An lE trivial))))))))
 replace h := cF g1 h
 replace h := popS h hr1
 refine eN ?_
 replace h := oJ h
 first | subst h | rw [← h]
 exact (fr trivial)

theorem c_rank_Validate (p0 : api_Ranks) (r : Int) (h : rank_Validate p0 = some r) : Contract Tryz.prog 276 [.agg [.int .i64 p0.N, .lst 3 false (List.map enc_api_Entry p0.Entries)]] [] (.int .i64 r) [] := by
 refine contract_of_vcs tab_ok orders_ok Tryz.func276 Tryz.call276 (by kernel_rfl) 1 rfl rfl _ rfl ?_
 delta rank_Validate at h
 refine eN (eN ?_)
 refine eX [.int .i64 (p0.Entries.length : Int)] (An (lenS enc_api_Entry p0.Entries) ?_)
 refine eN (eN ?_)
 refine An (fun g1 => ?_) (fun g1 => ?_)
 refine An (fun g2 => ?_) (fun g2 => ?_)
 refine An (fun g3 => ?_) (fun g3 => ?_)
 replace h := cT (oR (oR g1 g2) g3) h
 refine eN ?_
 replace h := oJ h
 first | subst h | rw [← h]
 exact (r1 trivial)
 replace h := cF (oR (oR g1 g2) g3) h
 refine eN ?_
 refine eX [.int .i64 (p0.Entries.length : Int)] (An (lenS enc_api_Entry p0.Entries) ?_)
 replace h : rank_Validate_l3 p0 (0:Int) = some r := h
 delta rank_Validate_l3 at h
 obtain ⟨n1, h⟩ := loopS h
 refine eX (Sum.inl ⟨Int × Nat, fun q => [(.tmp 1, .av (.ptr 1 0)), (.tmp 3, .av (.int .i64 (p0.Entries.length : Int))), (.tmp 27, .av (.lst 3 false (List.map enc_api_Entry p0.Entries))), (.tmp 28, .av (.int .i64 (p0.Entries.length : Int))), (.tmp 29, .av (.int .i64 q.1)), (.box 1, .box [.int .i64 p0.N, .lst 3 false (List.map enc_api_Entry p0.Entries)])], fun q => loopN (fun (s : Int) => rank_Validate_l3s p0 s) q.2 q.1 = some r, fun q => q.2⟩) (An (eX [] (eX [] (eX ((0:Int), n1) (An h (r2 (fr (r3 (fr trivial)))))))) ?_)
 clear h
 refine fun q h => ?_
 obtain ⟨v3_29, n1⟩ := q
 obtain ⟨m1, x1, hm1, h, hl1, hr1⟩ := loopN_step h
 replace hm1 : n1 = m1 + 1 := hm1
 subst hm1
 replace h : rank_Validate_l3s p0 v3_29 = some x1 := h
 delta rank_Validate_l3s at h
 refine eN ?_
 refine An (fun g4 => ?_) (fun g4 => ?_)
 replace h := cT g4 h
 refine eN (eN ?_)
 obtain ⟨x6_1, e6_1, h⟩ := bS h
 refine eX [.int .i64 x6_1.V, .int .i64 x6_1.Min, .int .i64 x6_1.Max] (An (idx_map enc_api_Entry e6_1) ?_)
 refine eN (eN ?_)
 refine An (fun g5 => ?_) (fun g5 => ?_)
 refine An (fun g6 => ?_) (fun g6 => ?_)
 refine An (fun g7 => ?_) (fun g7 => ?_)
 replace h := cT (oR (oR g5 g6) g7) h
 refine eN ?_
 replace h := retS h hr1
 first | subst h | rw [← h]
 exact (r1 trivial)
 replace h := cF (oR (oR g5 g6) g7) h
 refine eN (eN ?_)
 refine An (fun g8 => ?_) (fun g8 => ?_)
 replace h := cT g8 h
 refine eN ?_
 obtain ⟨x10_4, e10_4, h⟩ := bS h
 refine eX [.int .i64 x10_4.V, .int .i64 x10_4.Min, .int .i64 x10_4.Max] (An (idx_map enc_api_Entry e10_4) ?_)
 refine eN (eN ?_)
 refine An (fun g9 => ?_) (fun g9 => ?_)
 refine An (fun g10 => ?_) (fun g10 => ?_)
 refine An (fun g11 => ?_) (fun g11 => ?_)
 replace h := cT (oR (oR g9 g10) g11) h
 refine eN ?_
 replace h := retS h hr1
 first | subst h | rw [← h]
 exact (r1 trivial)
 replace h := cF (oR (oR g9 g10) g11) h
 refine eN ?_
 exact eX [] (eX [] (eX ((w64 (v3_29 + (1:Int))), m1) (An (hl1 (w64 (v3_29 + (1:Int))) (oJ h).symm) (An (Nat.lt_succ_self m1) (r2 (fr (r3 (fr trivial))))))))
 replace h := cT (oL (oR g9 g10)) h
 refine eN ?_
 replace h := retS h hr1
 first | subst h | rw [← h]
 exact (r1 trivial)
 replace h := cT (oL (oL g9)) h
 refine eN ?_
 replace h := retS h hr1
 first | subst h | rw [← h]
 exact (r1 trivial)
 replace h := cF g8 h
 refine eN ?_
 exact eX [] (eX [] (eX ((w64 (v3_29 + (1:Int))), m1) (An (hl1 (w64 (v3_29 + (1:Int))) (oJ h).symm) (An (Nat.lt_succ_self m1) (r2 (fr (r3 (fr trivial))))))))
 replace h := cT (oL (oR g5 g6)) h
 refine eN ?_
 replace h := retS h hr1
 first | subst h | rw [← h]
 exact (r1 trivial)
 replace h := cT (oL (oL g5)) h
 refine eN ?_
 replace h := retS h hr1
 first | subst h | rw [← h]
 exact (r1 trivial)
 replace h := cF g4 h
 replace h := popS h hr1
 refine eN ?_
 obtain ⟨x14_5, e14_5, h⟩ := bS h
 obtain ⟨x14_14, e14_14, h⟩ := bS h
 refine eX (some (⟨Unit, fun _ => [(.tmp 100, .av (.sb ((decide ((p0.Entries.length : Int) > (0:Int))) && ((x14_5.Max != (1:Int)) || (x14_14.Min != p0.N)))))], fun _ => True, fun _ => 0⟩, 1000000)) (An ?_ (fun _ _ => ?_))
 refine An (fun g12 => ?_) (fun g12 => ?_)
 refine eX [.int .i64 x14_5.V, .int .i64 x14_5.Min, .int .i64 x14_5.Max] (An (idx_map enc_api_Entry (gdT g12 e14_5)) ?_)
 refine An (fun g13 => ?_) (fun g13 => ?_)
 refine eX [.int .i64 x14_14.V, .int .i64 x14_14.Min, .int .i64 x14_14.Max] (An (idx_map enc_api_Entry (gdT (aR g12 (nE g13)) e14_14)) ?_)
 exact eX [] (eX [] (eX () (An trivial (r1 (An (Eq.symm (aR g12 (oR g13 rfl))) trivial)))))
 exact eX [] (eX [] (eX () (An trivial (r1 (An (Eq.symm (aR g12 (oL g13))) trivial)))))
 exact eX [] (eX [] (eX () (An trivial (r1 (An (Eq.symm (aL g12)) trivial)))))
 refine An (fun g14 => ?_) (fun g14 => ?_)
 replace h := cT g14 h
 refine eN ?_
 replace h := oJ h
 first | subst h | rw [← h]
 exact (r1 trivial)
 replace h := cF g14 h
 refine eN ?_
 replace h := oJ h
 first | subst h | rw [← h]
 exact (r1 trivial)
 replace h := cT (oL (oR g1 g2)) h
 refine eN ?_
 replace h := oJ h
 first | subst h | rw [← h]
 exact (r1 trivial)
 replace h := cT (oL (oL g1)) h
 refine eN ?_
 replace h := oJ h
 first | subst h | rw [← h]
 exact (r1 trivial)

theorem c_rank_Gap (p0 : api_Ranks) (r : Int) (h : rank_Gap p0 = some r) : Contract Tryz.prog 277 [.agg [.int .i64 p0.N, .lst 3 false (List.map enc_api_Entry p0.Entries)]] [] (.int .i64 r) [] := by
 refine contract_of_vcs tab_ok orders_ok Tryz.func277 Tryz.call277 (by kernel_rfl) 1 rfl rfl _ rfl ?_
 delta rank_Gap at h
 refine eN (eN ?_)
 obtain ⟨y1_1, e1_1, h⟩ := bS h
 refine eN ?_
 refine eX (CK.plain _ _) (An (ContractT.wk (c_rank_Validate p0 y1_1 e1_1) (r1 (fr trivial))) (An rfl ?_))
 refine An (fun g1 => ?_) (fun g1 => ?_)
 refine eX [.int .i64 (p0.Entries.length : Int)] (An (lenS enc_api_Entry p0.Entries) ?_)
 refine An (fun g2 => ?_) (fun g2 => ?_)
 replace h := cT (oR g1 g2) h
 refine eN ?_
 replace h := oJ h
 first | subst h | rw [← h]
 exact (r1 trivial)
 replace h := cF (oR g1 g2) h
 refine eN (eN ?_)
 replace h : rank_Gap_l3 p0 (1:Int) (1:Int) = some r := h
 delta rank_Gap_l3 at h
 obtain ⟨n1, h⟩ := loopS h
 refine eX (Sum.inl ⟨(Int × Int) × Nat, fun q => [(.tmp 1, .av (.ptr 1 0)), (.tmp 3, .av (.int .i64 q.1.1)), (.tmp 4, .av (.int .i64 q.1.2)), (.box 1, .box [.int .i64 p0.N, .lst 3 false (List.map enc_api_Entry p0.Entries)])], fun q => loopN (fun (s : (Int × Int)) => rank_Gap_l3s p0 s.1 s.2) q.2 q.1 = some r, fun q => q.2⟩) (An (eX [] (eX [] (eX (((1:Int), (1:Int)), n1) (An h (r4 (fr trivial)))))) ?_)
 clear h
 refine fun q h => ?_
 obtain ⟨⟨v3_3, v3_4⟩, n1⟩ := q
 obtain ⟨m1, x1, hm1, h, hl1, hr1⟩ := loopN_step h
 replace hm1 : n1 = m1 + 1 := hm1
 subst hm1
 replace h : rank_Gap_l3s p0 v3_3 v3_4 = some x1 := h
 delta rank_Gap_l3s at h
 refine eN ?_
 refine eX [.int .i64 (p0.Entries.length : Int)] (An (lenS enc_api_Entry p0.Entries) ?_)
 refine An (fun g3 => ?_) (fun g3 => ?_)
 replace h := cT g3 h
 refine eN ?_
 obtain ⟨x7_4, e7_4, h⟩ := bS h
 obtain ⟨x7_11, e7_11, h⟩ := bS h
 refine eX [.int .i64 x7_4.V, .int .i64 x7_4.Min, .int .i64 x7_4.Max] (An (idx_map enc_api_Entry e7_4) ?_)
 refine eX [.int .i64 x7_11.V, .int .i64 x7_11.Min, .int .i64 x7_11.Max] (An (idx_map enc_api_Entry e7_11) ?_)
 refine eN ?_
 exact eX [] (eX [] (eX (((imax v3_3 (w64 (x7_4.Max - x7_11.Min))), (w64 (v3_4 + (1:Int)))), m1) (An (hl1 ((imax v3_3 (w64 (x7_4.Max - x7_11.Min))), (w64 (v3_4 + (1:Int)))) (oJ h).symm) (An (Nat.lt_succ_self m1) (r4 (fr trivial))))))
 replace h := cF g3 h
 replace h := popS h hr1
 refine eN ?_
 replace h := oJ h
 first | subst h | rw [← h]
 exact (r1 trivial)
 replace h := cT (oL g1) h
 refine eN ?_
 replace h := oJ h
 first | subst h | rw [← h]
 exact (r1 trivial)

theorem c_num_CeilDiv (p0 : Int) (p1 : Int) (r : (Int × Bool)) (h : num_CeilDiv p0 p1 = some r) : Contract Tryz.prog 294 [.int .i64 p0, .int .i64 p1] [] (.tup [.int .i64 r.1, .sb r.2]) [] := by
 refine contract_of_vcs tab_ok orders_ok Tryz.func294 Tryz.call294 (by kernel_rfl) 1 rfl rfl _ rfl ?_
 delta num_CeilDiv at h
 refine eN (eN ?_)
 refine eX (some (⟨Unit, fun _ => [(.tmp 0, .av (.int .i64 p0)), (.tmp 1, .av (.int .i64 p1)), (.tmp 16, .av (.sb ((p1 == (0:Int)) || ((p0 == (-9223372036854775808:Int)) && (p1 == (-1:Int))))))], fun _ => True, fun _ => 0⟩, 1000000)) (An ?_ (fun _ _ => ?_))
 refine An (fun g1 => ?_) (fun g1 => ?_)
 refine An (fun g2 => ?_) (fun g2 => ?_)
 exact eX [] (eX [] (eX () (An trivial (r3 (An (Eq.symm (oR g1 (aR g2 rfl))) trivial)))))
 exact eX [] (eX [] (eX () (An trivial (r3 (An (Eq.symm (oR g1 (aL g2))) trivial)))))
 exact eX [] (eX [] (eX () (An trivial (r3 (An (Eq.symm (oL g1)) trivial)))))
 refine An (fun g3 => ?_) (fun g3 => ?_)
 replace h := cT g3 h
 refine eN ?_
 replace h := oJ h
 first | subst h | rw [← h]
 exact (r2 trivial)
 replace h := cF g3 h
 refine eN ?_
 obtain ⟨k3_2, h⟩ := ckS h
 refine An (oD k3_2) ?_
 refine eN ?_
 obtain ⟨k4_2, h⟩ := ckS h
 refine eX (some (⟨Unit, fun _ => [(.tmp 6, .av (.int .i64 (w64 (Int.tdiv p0 p1)))), (.tmp 30, .av (.sb (((Int.tmod p0 p1) != (0:Int)) && ((decide (p0 < (0:Int))) == (decide (p1 < (0:Int)))))))], fun _ => True, fun _ => 0⟩, 2000000)) (An ?_ (fun _ _ => ?_))
 refine An (oD k4_2) ?_
 refine An (fun g4 => ?_) (fun g4 => ?_)
 exact eX [] (eX [] (eX () (An trivial (r2 (An (Eq.symm (aR g4 rfl)) trivial)))))
 exact eX [] (eX [] (eX () (An trivial (r2 (An (Eq.symm (aL g4)) trivial)))))
 refine eN ?_
 refine An (fun g5 => ?_) (fun g5 => ?_)
 replace h := cT g5 h
 refine eN (eN ?_)
 replace h := oJ h
 first | subst h | rw [← h]
 exact (r2 trivial)
 replace h := cF g5 h
 refine eN ?_
 replace h := oJ h
 first | subst h | rw [← h]
 exact (r2 trivial)

theorem c_blocks_Allowed (p0 : Int) (p1 : Int) (r : Int) (h : blocks_Allowed p0 p1 = some r) : Contract Tryz.prog 278 [.int .i64 p0, .int .i64 p1] [] (.int .i64 r) [] := by
 refine contract_of_vcs tab_ok orders_ok Tryz.func278 Tryz.call278 (by kernel_rfl) 1 rfl rfl _ rfl ?_
 delta blocks_Allowed at h
 refine eN (eN (eN ?_))
 refine An (fun g1 => ?_) (fun g1 => ?_)
 refine An (fun g2 => ?_) (fun g2 => ?_)
 refine An (fun g3 => ?_) (fun g3 => ?_)
 refine An (fun g4 => ?_) (fun g4 => ?_)
 replace h := cT (oR (oR (oR g1 g2) g3) g4) h
 refine eN ?_
 replace h := oJ h
 first | subst h | rw [← h]
 exact (r1 trivial)
 replace h := cF (oR (oR (oR g1 g2) g3) g4) h
 refine eN (eN ?_)
 replace h : blocks_Allowed_l3 p0 p1 (0:Int) (0:Int) = some r := h
 delta blocks_Allowed_l3 at h
 obtain ⟨n1, h⟩ := loopS h
 refine eX (Sum.inl ⟨(Int × Int) × Nat, fun q => [(.tmp 0, .av (.int .i64 p0)), (.tmp 1, .av (.int .i64 p1)), (.tmp 5, .av (.int .i64 q.1.1)), (.tmp 6, .av (.int .i64 q.1.2))], fun q => loopN (fun (s : (Int × Int)) => blocks_Allowed_l3s p0 p1 s.1 s.2) q.2 q.1 = some r, fun q => q.2⟩) (An (eX [] (eX [] (eX (((0:Int), (0:Int)), n1) (An h (r5 trivial))))) ?_)
 clear h
 refine fun q h => ?_
 obtain ⟨⟨v3_5, v3_6⟩, n1⟩ := q
 obtain ⟨m1, x1, hm1, h, hl1, hr1⟩ := loopN_step h
 replace hm1 : n1 = m1 + 1 := hm1
 subst hm1
 replace h : blocks_Allowed_l3s p0 p1 v3_5 v3_6 = some x1 := h
 delta blocks_Allowed_l3s at h
 refine eN ?_
 refine An (fun g5 => ?_) (fun g5 => ?_)
 replace h := cT g5 h
 refine eN (eN ?_)
 obtain ⟨k7_2, h⟩ := ckS h
 refine An (oD k7_2) ?_
 refine eN (eN ?_)
 refine An (fun g6 => ?_) (fun g6 => ?_)
 replace h := cT g6 h
 refine eN ?_
 obtain ⟨y9_3, e9_3, h⟩ := bS h
 refine eX (CK.plain _ _) (An (ContractT.wk (c_num_CeilDiv (w64 ((ishl .i64 (1:Int) (wu64 v3_6)) - (1:Int))) p1 y9_3 e9_3) (r2 trivial)) (An rfl ?_))
 refine eN (eN ?_)
 exact eX [] (eX [] (eX (((w64 ((w64 ((2:Int) * v3_5)) + y9_3.1)), (w64 (v3_6 + (1:Int)))), m1) (An (hl1 ((w64 ((w64 ((2:Int) * v3_5)) + y9_3.1)), (w64 (v3_6 + (1:Int)))) (oJ h).symm) (An (Nat.lt_succ_self m1) (r5 trivial)))))
 replace h := cF g6 h
 refine eN ?_
 exact eX [] (eX [] (eX ((v3_5, (w64 (v3_6 + (1:Int)))), m1) (An (hl1 (v3_5, (w64 (v3_6 + (1:Int)))) (oJ h).symm) (An (Nat.lt_succ_self m1) (r5 trivial)))))
 replace h := cF g5 h
 replace h := popS h hr1
 refine eN ?_
 replace h := oJ h
 first | subst h | rw [← h]
 exact (r1 trivial)
 replace h := cT (oL (oR (oR g1 g2) g3)) h
 refine eN ?_
 replace h := oJ h
 first | subst h | rw [← h]
 exact (r1 trivial)
 replace h := cT (oL (oL (oR g1 g2))) h
 refine eN ?_
 replace h := oJ h
 first | subst h | rw [← h]
 exact (r1 trivial)
 replace h := cT (oL (oL (oL g1))) h
 refine eN ?_
 replace h := oJ h
 first | subst h | rw [← h]
 exact (r1 trivial)

theorem c_blocks_Valid (p0 : (List api_Block)) (p1 : Int) (p2 : Int) (r : Bool) (h : blocks_Valid p0 p1 p2 = some r) : Contract Tryz.prog 234 [.lst 5 false (List.map enc_api_Block p0), .int .i64 p1, .int .i64 p2] [] (.sb r) [] := by
 refine contract_of_vcs tab_ok orders_ok Tryz.func234 Tryz.call234 (by kernel_rfl) 1 rfl rfl _ rfl ?_
 delta blocks_Valid at h
 refine eN (eN ?_)
 obtain ⟨y1_8, e1_8, h⟩ := bS h
 obtain ⟨y1_10, e1_10, h⟩ := bS h
 refine eN ?_
 refine An (fun g1 => ?_) (fun g1 => ?_)
 refine An (fun g2 => ?_) (fun g2 => ?_)
 refine eX (CK.plain _ _) (An (ContractT.wk (c_blocks_plain p0 y1_8 (gdT (nE (oR g1 g2)) e1_8)) (fr trivial)) (An rfl ?_))
 refine eX (CK.plain _ _) (An (ContractT.wk (c_buckets_Valid y1_8 p1 y1_10 (gdT (nE (oR g1 g2)) e1_10)) (fr (r1 trivial))) (An rfl ?_))
 refine An (fun g3 => ?_) (fun g3 => ?_)
 replace h := cT (oR (oR g1 g2) g3) h
 refine eN ?_
 replace h := oJ h
 first | subst h | rw [← h]
 exact (r1 trivial)
 replace h := cF (oR (oR g1 g2) g3) h
 refine eN ?_
 refine eX [.int .i64 (p0.length : Int)] (An (lenS enc_api_Block p0) ?_)
 replace h : blocks_Valid_l3 p0 p2 (0:Int) = some r := h
 delta blocks_Valid_l3 at h
 obtain ⟨n1, h⟩ := loopS h
 refine eX (Sum.inl ⟨Int × Nat, fun q => [(.tmp 2, .av (.int .i64 p2)), (.tmp 25, .av (.lst 5 false (List.map enc_api_Block p0))), (.tmp 26, .av (.int .i64 (p0.length : Int))), (.tmp 27, .av (.int .i64 q.1))], fun q => loopN (fun (s : Int) => blocks_Valid_l3s p0 p2 s) q.2 q.1 = some r, fun q => q.2⟩) (An (eX [] (eX [] (eX ((0:Int), n1) (An h (r2 (fr (r2 trivial))))))) ?_)
 clear h
 refine fun q h => ?_
 obtain ⟨v3_27, n1⟩ := q
 obtain ⟨m1, x1, hm1, h, hl1, hr1⟩ := loopN_step h
 replace hm1 : n1 = m1 + 1 := hm1
 subst hm1
 replace h : blocks_Valid_l3s p0 p2 v3_27 = some x1 := h
 delta blocks_Valid_l3s at h
 refine eN ?_
 refine An (fun g4 => ?_) (fun g4 => ?_)
 replace h := cT g4 h
 refine eN ?_
 obtain ⟨x5_0, e5_0, h⟩ := bS h
 refine eX (enc_api_Block x5_0) (An (idx_map enc_api_Block e5_0) ?_)
 refine eN (eN ?_)
 obtain ⟨y7_1, e7_1, h⟩ := bS h
 obtain ⟨k7_9, h⟩ := ckS h
 obtain ⟨y7_22, e7_22, h⟩ := bS h
 obtain ⟨y7_27, e7_27, h⟩ := bS h
 refine eN ?_
 refine eX (CK.plain _ _) (An (ContractT.wk (c_rank_Validate x5_0.Ranks y7_1 e7_1) (r1 (fr trivial))) (An rfl ?_))
 refine An (fun g5 => ?_) (fun g5 => ?_)
 refine An (oD (gT (nE g5) k7_9)) ?_
 refine An (fun g6 => ?_) (fun g6 => ?_)
 refine eX [.int .i64 (x5_0.Ranks.Entries.length : Int)] (An (lenS enc_api_Entry x5_0.Ranks.Entries) ?_)
 refine An (fun g7 => ?_) (fun g7 => ?_)
 refine eX (CK.plain _ _) (An (ContractT.wk (c_rank_Gap x5_0.Ranks y7_22 (gdT (nE (oR (oR g5 g6) g7)) e7_22)) (r1 (fr trivial))) (An rfl ?_))
 refine eX (CK.plain _ _) (An (ContractT.wk (c_blocks_Allowed x5_0.Level p2 y7_27 (gdT (nE (oR (oR g5 g6) g7)) e7_27)) (r2 trivial)) (An rfl ?_))
 refine An (fun g8 => ?_) (fun g8 => ?_)
 replace h := cT (oR (oR (oR g5 g6) g7) g8) h
 refine eN ?_
 replace h := retS h hr1
 first | subst h | rw [← h]
 exact (r1 trivial)
 replace h := cF (oR (oR (oR g5 g6) g7) g8) h
 refine eN ?_
 obtain ⟨x9_2, e9_2, h⟩ := bS h
 obtain ⟨x9_11, e9_11, h⟩ := bS h
 refine eX [.int .i64 x9_2.V, .int .i64 x9_2.Min, .int .i64 x9_2.Max] (An (idx_map enc_api_Entry e9_2) ?_)
 refine eX [.int .i64 (x5_0.Ranks.Entries.length : Int)] (An (lenS enc_api_Entry x5_0.Ranks.Entries) ?_)
 refine eX [.int .i64 x9_11.V, .int .i64 x9_11.Min, .int .i64 x9_11.Max] (An (idx_map enc_api_Entry e9_11) ?_)
 refine eN (eN ?_)
 refine An (fun g9 => ?_) (fun g9 => ?_)
 refine An (fun g10 => ?_) (fun g10 => ?_)
 refine An (fun g11 => ?_) (fun g11 => ?_)
 refine An (fun g12 => ?_) (fun g12 => ?_)
 replace h := cT (oR (oR (oR g9 g10) g11) g12) h
 refine eN ?_
 replace h := retS h hr1
 first | subst h | rw [← h]
 exact (r1 trivial)
 replace h := cF (oR (oR (oR g9 g10) g11) g12) h
 refine eN ?_
 exact eX [] (eX [] (eX ((w64 (v3_27 + (1:Int))), m1) (An (hl1 (w64 (v3_27 + (1:Int))) (oJ h).symm) (An (Nat.lt_succ_self m1) (r2 (fr (r2 trivial)))))))
 replace h := cT (oL (oR (oR g9 g10) g11)) h
 refine eN ?_
 replace h := retS h hr1
 first | subst h | rw [← h]
 exact (r1 trivial)
 replace h := cT (oL (oL (oR g9 g10))) h
 refine eN ?_
 replace h := retS h hr1
 first | subst h | rw [← h]
 exact (r1 trivial)
 replace h := cT (oL (oL (oL g9))) h
 refine eN ?_
 replace h := retS h hr1
 first | subst h | rw [← h]
 exact (r1 trivial)
 replace h := cT (oL (oR (oR g5 g6) g7)) h
 refine eN ?_
 replace h := retS h hr1
 first | subst h | rw [← h]
 exact (r1 trivial)
 replace h := cT (oL (oL (oR g5 g6))) h
 refine eN ?_
 replace h := retS h hr1
 first | subst h | rw [← h]
 exact (r1 trivial)
 replace h := cT (oL (oL (oL g5))) h
 refine eN ?_
 replace h := retS h hr1
 first | subst h | rw [← h]
 exact (r1 trivial)
 replace h := cF g4 h
 replace h := popS h hr1
 refine eN ?_
 replace h := oJ h
 first | subst h | rw [← h]
 exact (r1 trivial)
 replace h := cT (oL (oR g1 g2)) h
 refine eN ?_
 replace h := oJ h
 first | subst h | rw [← h]
 exact (r1 trivial)
 replace h := cT (oL (oL g1)) h
 refine eN ?_
 replace h := oJ h
 first | subst h | rw [← h]
 exact (r1 trivial)

theorem c_blocks_Total (p0 : (List api_Block)) (r : Int) (h : blocks_Total p0 = some r) : Contract Tryz.prog 205 [.lst 5 false (List.map enc_api_Block p0)] [] (.int .i64 r) [] := by
 refine contract_of_vcs tab_ok orders_ok Tryz.func205 Tryz.call205 (by kernel_rfl) 1 rfl rfl _ rfl ?_
 delta blocks_Total at h
 refine eN (eN ?_)
 obtain ⟨y1_1, e1_1, h⟩ := bS h
 obtain ⟨y1_2, e1_2, h⟩ := bS h
 refine eX (CK.plain _ _) (An (ContractT.wk (c_blocks_plain p0 y1_1 e1_1) (fr trivial)) (An rfl ?_))
 refine eX (CK.plain _ _) (An (ContractT.wk (c_buckets_Total y1_1 y1_2 e1_2) (fr trivial)) (An rfl ?_))
 replace h := oJ h
 first | subst h | rw [← h]
 exact (r1 trivial)

theorem c_quantile_Validate (p0 : api_Quantile) (r : Int) (h : quantile_Validate p0 = some r) : Contract Tryz.prog 161 [.agg (enc_api_Quantile p0)] [] (.int .i64 r) [] := by
 refine contract_of_vcs tab_ok orders_ok Tryz.func161 Tryz.call161 (by kernel_rfl) 1 rfl rfl _ rfl ?_
 delta quantile_Validate at h
 refine eN (eN ?_)
 obtain ⟨y1_20, e1_20, h⟩ := bS h
 obtain ⟨y1_21, e1_21, h⟩ := bS h
 obtain ⟨y1_27, e1_27, h⟩ := bS h
 refine eN ?_
 refine eX (CK.plain _ _) (An (ContractT.wk (c_quantile_good' p0.W p0.K p0.Cap p0.Now _ rfl) (r4 trivial)) (An rfl ?_))
 refine An (fun g1 => ?_) (fun g1 => ?_)
 refine eX (CK.plain _ _) (An (ContractT.wk (c_quantile_Size p0.K p0.Cap y1_20 (gdT (nE g1) e1_20)) (r2 trivial)) (An rfl ?_))
 refine eX (CK.plain _ _) (An (ContractT.wk (c_blocks_Valid p0.Blocks (w64 ((2:Int) * p0.K)) y1_20 y1_21 (gdT (nE g1) e1_21)) (fr (r2 trivial))) (An rfl ?_))
 refine An (fun g2 => ?_) (fun g2 => ?_)
 refine eX (CK.plain _ _) (An (ContractT.wk (c_blocks_Total p0.Blocks y1_27 (gdT (nE (oR g1 g2)) e1_27)) (fr trivial)) (An rfl ?_))
 refine An (fun g3 => ?_) (fun g3 => ?_)
 replace h := cT (oR (oR g1 g2) g3) h
 refine eN ?_
 replace h := oJ h
 first | subst h | rw [← h]
 exact (r1 trivial)
 replace h := cF (oR (oR g1 g2) g3) h
 refine eN ?_
 refine eX [.int .i64 (p0.Blocks.length : Int)] (An (lenS enc_api_Block p0.Blocks) ?_)
 replace h : quantile_Validate_l3 p0 (0:Int) = some r := h
 delta quantile_Validate_l3 at h
 obtain ⟨n1, h⟩ := loopS h
 refine eX (Sum.inl ⟨Int × Nat, fun q => [(.tmp 1, .av (.ptr 1 0)), (.tmp 38, .av (.lst 5 false (List.map enc_api_Block p0.Blocks))), (.tmp 39, .av (.int .i64 (p0.Blocks.length : Int))), (.tmp 40, .av (.int .i64 q.1)), (.box 1, .box (enc_api_Quantile p0))], fun q => loopN (fun (s : Int) => quantile_Validate_l3s p0 s) q.2 q.1 = some r, fun q => q.2⟩) (An (eX [] (eX [] (eX ((0:Int), n1) (An h (r1 (fr (r6 (fr trivial)))))))) ?_)
 clear h
 refine fun q h => ?_
 obtain ⟨v3_40, n1⟩ := q
 obtain ⟨m1, x1, hm1, h, hl1, hr1⟩ := loopN_step h
 replace hm1 : n1 = m1 + 1 := hm1
 subst hm1
 replace h : quantile_Validate_l3s p0 v3_40 = some x1 := h
 delta quantile_Validate_l3s at h
 refine eN ?_
 refine An (fun g4 => ?_) (fun g4 => ?_)
 replace h := cT g4 h
 refine eN ?_
 obtain ⟨x5_0, e5_0, h⟩ := bS h
 refine eX (enc_api_Block x5_0) (An (idx_map enc_api_Block e5_0) ?_)
 refine eN ?_
 refine eX (CK.plain _ _) (An (ContractT.wk (c_clock_Live' p0.Now p0.W x5_0.T _ rfl) (r3 trivial)) (An rfl ?_))
 refine An (fun g5 => ?_) (fun g5 => ?_)
 replace h := cT g5 h
 refine eN ?_
 replace h := retS h hr1
 first | subst h | rw [← h]
 exact (r1 trivial)
 replace h := cF g5 h
 refine eN ?_
 exact eX [] (eX [] (eX ((w64 (v3_40 + (1:Int))), m1) (An (hl1 (w64 (v3_40 + (1:Int))) (oJ h).symm) (An (Nat.lt_succ_self m1) (r1 (fr (r6 (fr trivial))))))))
 replace h := cF g4 h
 replace h := popS h hr1
 refine eN ?_
 replace h := oJ h
 first | subst h | rw [← h]
 exact (r1 trivial)
 replace h := cT (oL (oR g1 g2)) h
 refine eN ?_
 replace h := oJ h
 first | subst h | rw [← h]
 exact (r1 trivial)
 replace h := cT (oL (oL g1)) h
 refine eN ?_
 replace h := oJ h
 first | subst h | rw [← h]
 exact (r1 trivial)

theorem c_synopsis_right (p0 : api_Synopsis) (r : Bool) (h : synopsis_right p0 = some r) : Contract Tryz.prog 78 [.agg (enc_api_Synopsis p0)] [] (.sb r) [] := by
 refine contract_of_vcs tab_ok orders_ok Tryz.func78 Tryz.call78 (by kernel_rfl) 1 rfl rfl _ rfl ?_
 delta synopsis_right at h
 refine eN (eN (eN (eN ?_)))
 refine An (fun g1 => ?_) (fun g1 => ?_)
 replace h := cT g1 h
 refine eN (eN ?_)
 obtain ⟨y5_1, e5_1, h⟩ := bS h
 refine eN ?_
 refine eX (CK.plain _ _) (An (ContractT.wk (c_recent_Validate p0.Recent y5_1 e5_1) (r3 (fr trivial))) (An rfl ?_))
 refine An (fun g2 => ?_) (fun g2 => ?_)
 refine An (fun g3 => ?_) (fun g3 => ?_)
 replace h := oJ h
 first | subst h | rw [← h]
 exact (An (Eq.symm (aR (aR g2 g3) rfl)) trivial)
 replace h := oJ h
 first | subst h | rw [← h]
 exact (An (Eq.symm (aL (aR g2 g3))) trivial)
 replace h := oJ h
 first | subst h | rw [← h]
 exact (An (Eq.symm (aL (aL g2))) trivial)
 replace h := cF g1 h
 refine eN ?_
 refine An (fun g4 => ?_) (fun g4 => ?_)
 replace h := cT g4 h
 refine eN (eN ?_)
 obtain ⟨y8_1, e8_1, h⟩ := bS h
 refine eN ?_
 refine eX (CK.plain _ _) (An (ContractT.wk (c_count_Validate p0.Count y8_1 e8_1) (r4 (fr trivial))) (An rfl ?_))
 refine An (fun g5 => ?_) (fun g5 => ?_)
 refine An (fun g6 => ?_) (fun g6 => ?_)
 refine An (fun g7 => ?_) (fun g7 => ?_)
 replace h := oJ h
 first | subst h | rw [← h]
 exact (An (Eq.symm (aR (aR (aR g5 g6) g7) rfl)) trivial)
 replace h := oJ h
 first | subst h | rw [← h]
 exact (An (Eq.symm (aL (aR (aR g5 g6) g7))) trivial)
 replace h := oJ h
 first | subst h | rw [← h]
 exact (An (Eq.symm (aL (aL (aR g5 g6)))) trivial)
 replace h := oJ h
 first | subst h | rw [← h]
 exact (An (Eq.symm (aL (aL (aL g5)))) trivial)
 replace h := cF g4 h
 refine eN ?_
 refine An (fun g8 => ?_) (fun g8 => ?_)
 replace h := cT g8 h
 refine eN (eN ?_)
 obtain ⟨y11_1, e11_1, h⟩ := bS h
 refine eN ?_
 refine eX (CK.plain _ _) (An (ContractT.wk (c_sum_Validate p0.Sum y11_1 e11_1) (r5 (fr trivial))) (An rfl ?_))
 refine An (fun g9 => ?_) (fun g9 => ?_)
 refine An (fun g10 => ?_) (fun g10 => ?_)
 refine An (fun g11 => ?_) (fun g11 => ?_)
 refine An (fun g12 => ?_) (fun g12 => ?_)
 replace h := oJ h
 first | subst h | rw [← h]
 exact (An (Eq.symm (aR (aR (aR (aR g9 g10) g11) g12) rfl)) trivial)
 replace h := oJ h
 first | subst h | rw [← h]
 exact (An (Eq.symm (aL (aR (aR (aR g9 g10) g11) g12))) trivial)
 replace h := oJ h
 first | subst h | rw [← h]
 exact (An (Eq.symm (aL (aL (aR (aR g9 g10) g11)))) trivial)
 replace h := oJ h
 first | subst h | rw [← h]
 exact (An (Eq.symm (aL (aL (aL (aR g9 g10))))) trivial)
 replace h := oJ h
 first | subst h | rw [← h]
 exact (An (Eq.symm (aL (aL (aL (aL g9))))) trivial)
 replace h := cF g8 h
 refine eN ?_
 refine An (fun g13 => ?_) (fun g13 => ?_)
 replace h := cT g13 h
 refine eN (eN ?_)
 obtain ⟨y14_1, e14_1, h⟩ := bS h
 refine eN ?_
 refine eX (CK.plain _ _) (An (ContractT.wk (c_smooth_Validate p0.Smooth y14_1 e14_1) (r6 (fr trivial))) (An rfl ?_))
 refine An (fun g14 => ?_) (fun g14 => ?_)
 refine An (fun g15 => ?_) (fun g15 => ?_)
 refine An (fun g16 => ?_) (fun g16 => ?_)
 refine An (fun g17 => ?_) (fun g17 => ?_)
 replace h := oJ h
 first | subst h | rw [← h]
 exact (An (Eq.symm (aR (aR (aR (aR g14 g15) g16) g17) rfl)) trivial)
 replace h := oJ h
 first | subst h | rw [← h]
 exact (An (Eq.symm (aL (aR (aR (aR g14 g15) g16) g17))) trivial)
 replace h := oJ h
 first | subst h | rw [← h]
 exact (An (Eq.symm (aL (aL (aR (aR g14 g15) g16)))) trivial)
 replace h := oJ h
 first | subst h | rw [← h]
 exact (An (Eq.symm (aL (aL (aL (aR g14 g15))))) trivial)
 replace h := oJ h
 first | subst h | rw [← h]
 exact (An (Eq.symm (aL (aL (aL (aL g14))))) trivial)
 replace h := cF g13 h
 refine eN ?_
 refine An (fun g18 => ?_) (fun g18 => ?_)
 replace h := cT g18 h
 refine eN (eN ?_)
 obtain ⟨y17_1, e17_1, h⟩ := bS h
 refine eN ?_
 refine eX (CK.plain _ _) (An (ContractT.wk (c_spread_Validate p0.Spread y17_1 e17_1) (r5 (fr trivial))) (An rfl ?_))
 refine An (fun g19 => ?_) (fun g19 => ?_)
 refine An (fun g20 => ?_) (fun g20 => ?_)
 refine An (fun g21 => ?_) (fun g21 => ?_)
 replace h := oJ h
 first | subst h | rw [← h]
 exact (An (Eq.symm (aR (aR (aR g19 g20) g21) rfl)) trivial)
 replace h := oJ h
 first | subst h | rw [← h]
 exact (An (Eq.symm (aL (aR (aR g19 g20) g21))) trivial)
 replace h := oJ h
 first | subst h | rw [← h]
 exact (An (Eq.symm (aL (aL (aR g19 g20)))) trivial)
 replace h := oJ h
 first | subst h | rw [← h]
 exact (An (Eq.symm (aL (aL (aL g19)))) trivial)
 replace h := cF g18 h
 refine eN ?_
 refine An (fun g22 => ?_) (fun g22 => ?_)
 replace h := cT g22 h
 refine eN ?_
 obtain ⟨y19_2, e19_2, h⟩ := bS h
 refine eN ?_
 refine eX (CK.plain _ _) (An (ContractT.wk (c_poly_Validate p0.Poly y19_2 e19_2) (r3 (fr trivial))) (An rfl ?_))
 refine An (fun g23 => ?_) (fun g23 => ?_)
 replace h := oJ h
 first | subst h | rw [← h]
 exact (An (Eq.symm (aR g23 rfl)) trivial)
 replace h := oJ h
 first | subst h | rw [← h]
 exact (An (Eq.symm (aL g23)) trivial)
 replace h := cF g22 h
 refine eN ?_
 refine An (fun g24 => ?_) (fun g24 => ?_)
 replace h := cT g24 h
 refine eN ?_
 obtain ⟨y21_2, e21_2, h⟩ := bS h
 refine eN ?_
 refine eX (CK.plain _ _) (An (ContractT.wk (c_halve_Validate p0.Halve y21_2 e21_2) (r1 (fr trivial))) (An rfl ?_))
 refine An (fun g25 => ?_) (fun g25 => ?_)
 refine eX [.int .i64 (p0.Halve.Sums.length : Int)] (An (lenS (eI .i64) p0.Halve.Sums) ?_)
 replace h := oJ h
 first | subst h | rw [← h]
 exact (An (Eq.symm (aR g25 rfl)) trivial)
 replace h := oJ h
 first | subst h | rw [← h]
 exact (An (Eq.symm (aL g25)) trivial)
 replace h := cF g24 h
 refine eN ?_
 refine An (fun g26 => ?_) (fun g26 => ?_)
 replace h := cT g26 h
 refine eN (eN ?_)
 obtain ⟨y24_1, e24_1, h⟩ := bS h
 refine eN ?_
 refine eX (CK.plain _ _) (An (ContractT.wk (c_extreme_Validate p0.Extreme y24_1 e24_1) (r4 (fr trivial))) (An rfl ?_))
 refine An (fun g27 => ?_) (fun g27 => ?_)
 refine An (fun g28 => ?_) (fun g28 => ?_)
 refine An (fun g29 => ?_) (fun g29 => ?_)
 replace h := oJ h
 first | subst h | rw [← h]
 exact (An (Eq.symm (aR (aR (aR g27 g28) g29) rfl)) trivial)
 replace h := oJ h
 first | subst h | rw [← h]
 exact (An (Eq.symm (aL (aR (aR g27 g28) g29))) trivial)
 replace h := oJ h
 first | subst h | rw [← h]
 exact (An (Eq.symm (aL (aL (aR g27 g28)))) trivial)
 replace h := oJ h
 first | subst h | rw [← h]
 exact (An (Eq.symm (aL (aL (aL g27)))) trivial)
 replace h := cF g26 h
 refine eN ?_
 refine An (fun g30 => ?_) (fun g30 => ?_)
 replace h := cT g30 h
 refine eN (eN ?_)
 obtain ⟨y27_1, e27_1, h⟩ := bS h
 obtain ⟨x27_14, e27_14, h⟩ := bS h
 obtain ⟨x27_24, e27_24, h⟩ := bS h
 refine eN ?_
 refine eX (CK.plain _ _) (An (ContractT.wk (c_sample_Validate p0.Sample y27_1 e27_1) (fr trivial)) (An rfl ?_))
 refine An (fun g31 => ?_) (fun g31 => ?_)
 refine eX [.int .i64 (p0.Sample.Chains.length : Int)] (An (lenS enc_api_Chain p0.Sample.Chains) ?_)
 refine An (fun g32 => ?_) (fun g32 => ?_)
 refine eX (enc_api_Chain x27_14) (An (idx_map enc_api_Chain (gdT (aR g31 g32) e27_14)) ?_)
 refine An (fun g33 => ?_) (fun g33 => ?_)
 refine eX (enc_api_Chain x27_24) (An (idx_map enc_api_Chain (gdT (aR (aR g31 g32) g33) e27_24)) ?_)
 replace h := oJ h
 first | subst h | rw [← h]
 exact (An (Eq.symm (aR (aR (aR g31 g32) g33) rfl)) trivial)
 replace h := oJ h
 first | subst h | rw [← h]
 exact (An (Eq.symm (aL (aR (aR g31 g32) g33))) trivial)
 replace h := oJ h
 first | subst h | rw [← h]
 exact (An (Eq.symm (aL (aL (aR g31 g32)))) trivial)
 replace h := oJ h
 first | subst h | rw [← h]
 exact (An (Eq.symm (aL (aL (aL g31)))) trivial)
 replace h := cF g30 h
 refine eN ?_
 refine An (fun g34 => ?_) (fun g34 => ?_)
 replace h := cT g34 h
 refine eN (eN ?_)
 obtain ⟨y30_1, e30_1, h⟩ := bS h
 refine eN ?_
 refine eX (CK.plain _ _) (An (ContractT.wk (c_summary_Validate p0.Summary y30_1 e30_1) (r3 (fr trivial))) (An rfl ?_))
 refine An (fun g35 => ?_) (fun g35 => ?_)
 refine An (fun g36 => ?_) (fun g36 => ?_)
 replace h := oJ h
 first | subst h | rw [← h]
 exact (An (Eq.symm (aR (aR g35 g36) rfl)) trivial)
 replace h := oJ h
 first | subst h | rw [← h]
 exact (An (Eq.symm (aL (aR g35 g36))) trivial)
 replace h := oJ h
 first | subst h | rw [← h]
 exact (An (Eq.symm (aL (aL g35))) trivial)
 replace h := cF g34 h
 refine eN (eN ?_)
 obtain ⟨y32_1, e32_1, h⟩ := bS h
 refine eN ?_
 refine eX (CK.plain _ _) (An (ContractT.wk (c_quantile_Validate p0.Quantile y32_1 e32_1) (r4 (fr trivial))) (An rfl ?_))
 refine An (fun g37 => ?_) (fun g37 => ?_)
 refine An (fun g38 => ?_) (fun g38 => ?_)
 refine An (fun g39 => ?_) (fun g39 => ?_)
 replace h := oJ h
 first | subst h | rw [← h]
 exact (An (Eq.symm (aR (aR (aR g37 g38) g39) rfl)) trivial)
 replace h := oJ h
 first | subst h | rw [← h]
 exact (An (Eq.symm (aL (aR (aR g37 g38) g39))) trivial)
 replace h := oJ h
 first | subst h | rw [← h]
 exact (An (Eq.symm (aL (aL (aR g37 g38)))) trivial)
 replace h := oJ h
 first | subst h | rw [← h]
 exact (An (Eq.symm (aL (aL (aL g37)))) trivial)

theorem c_synopsis_others' (p0 : api_Synopsis) (r : Bool) (h : synopsis_others p0 = r) : Contract Tryz.prog 79 [.agg (enc_api_Synopsis p0)] [] (.sb r) [] := by
 refine contract_of_vcs tab_ok orders_ok Tryz.func79 Tryz.call79 (by kernel_rfl) 1 rfl rfl _ rfl ?_
 delta synopsis_others at h
 refine eN (eN (eN (eN ?_)))
 refine eX (some (⟨Unit, fun _ => [(.tmp 1, .av (.ptr 1 0)), (.tmp 3, .av (.int .i64 p0.Config.Kind)), (.tmp 5, .av (.ptr 524 0)), (.tmp 6, .av (.ptr 525 0)), (.tmp 7, .av (.ptr 526 0)), (.tmp 8, .av (.ptr 527 0)), (.tmp 49, .av (.sb ((p0.Config.Kind != (1:Int)) && ((((p0.Recent.W != (0:Int)) || (p0.Recent.Cap != (0:Int))) || (p0.Recent.Now != (0:Int))) || (decide ((p0.Recent.Items.length : Int) > (0:Int))))))), (.box 1, .box (enc_api_Synopsis p0)), (.box 524, .box (enc_api_Count p0.Count)), (.box 525, .box (enc_api_Sum p0.Sum)), (.box 526, .box (enc_api_Smooth p0.Smooth)), (.box 527, .box (enc_api_Spread p0.Spread))], fun _ => True, fun _ => 0⟩, 1000000)) (An ?_ (fun _ _ => ?_))
 refine An (fun g1 => ?_) (fun g1 => ?_)
 refine An (fun g2 => ?_) (fun g2 => ?_)
 refine An (fun g3 => ?_) (fun g3 => ?_)
 refine An (fun g4 => ?_) (fun g4 => ?_)
 refine eX [.int .i64 (p0.Recent.Items.length : Int)] (An (lenS enc_api_Item p0.Recent.Items) ?_)
 exact eX [] (eX [] (eX () (An trivial (r2 (An (Eq.symm (aR g1 (oR (oR (oR g2 g3) g4) rfl))) (r8 (r3 (fr (r4 (fr (r5 (fr (r6 (fr (r5 (fr (r3 (fr (r1 (fr (r4 (fr (fr (r3 (fr (r4 (fr (r4 (fr (r5 (fr (r6 (fr (r5 (fr trivial)))))))))))))))))))))))))))))))))))
 exact eX [] (eX [] (eX () (An trivial (r2 (An (Eq.symm (aR g1 (oL (oR (oR g2 g3) g4)))) (r8 (r3 (fr (r4 (fr (r5 (fr (r6 (fr (r5 (fr (r3 (fr (r1 (fr (r4 (fr (fr (r3 (fr (r4 (fr (r4 (fr (r5 (fr (r6 (fr (r5 (fr trivial)))))))))))))))))))))))))))))))))))
 exact eX [] (eX [] (eX () (An trivial (r2 (An (Eq.symm (aR g1 (oL (oL (oR g2 g3))))) (r8 (r3 (fr (r4 (fr (r5 (fr (r6 (fr (r5 (fr (r3 (fr (r1 (fr (r4 (fr (fr (r3 (fr (r4 (fr (r4 (fr (r5 (fr (r6 (fr (r5 (fr trivial)))))))))))))))))))))))))))))))))))
 exact eX [] (eX [] (eX () (An trivial (r2 (An (Eq.symm (aR g1 (oL (oL (oL g2))))) (r8 (r3 (fr (r4 (fr (r5 (fr (r6 (fr (r5 (fr (r3 (fr (r1 (fr (r4 (fr (fr (r3 (fr (r4 (fr (r4 (fr (r5 (fr (r6 (fr (r5 (fr trivial)))))))))))))))))))))))))))))))))))
 exact eX [] (eX [] (eX () (An trivial (r2 (An (Eq.symm (aL g1)) (r8 (r3 (fr (r4 (fr (r5 (fr (r6 (fr (r5 (fr (r3 (fr (r1 (fr (r4 (fr (fr (r3 (fr (r4 (fr (r4 (fr (r5 (fr (r6 (fr (r5 (fr trivial)))))))))))))))))))))))))))))))))))
 refine An (fun g5 => ?_) (fun g5 => ?_)
 replace h := cT g5 h
 refine eN ?_
 first | subst h | rw [← h]
 exact (r1 trivial)
 replace h := cF g5 h
 refine eN ?_
 refine eX (some (⟨Unit, fun _ => [(.tmp 1, .av (.ptr 1 0)), (.tmp 3, .av (.int .i64 p0.Config.Kind)), (.tmp 6, .av (.ptr 525 0)), (.tmp 7, .av (.ptr 526 0)), (.tmp 8, .av (.ptr 527 0)), (.tmp 77, .av (.sb ((p0.Config.Kind != (2:Int)) && (((((p0.Count.W != (0:Int)) || (p0.Count.K != (0:Int))) || (p0.Count.Cap != (0:Int))) || (p0.Count.Now != (0:Int))) || (decide ((p0.Count.Buckets.length : Int) > (0:Int))))))), (.box 1, .box (enc_api_Synopsis p0)), (.box 525, .box (enc_api_Sum p0.Sum)), (.box 526, .box (enc_api_Smooth p0.Smooth)), (.box 527, .box (enc_api_Spread p0.Spread))], fun _ => True, fun _ => 0⟩, 2000000)) (An ?_ (fun _ _ => ?_))
 refine An (fun g6 => ?_) (fun g6 => ?_)
 refine An (fun g7 => ?_) (fun g7 => ?_)
 refine An (fun g8 => ?_) (fun g8 => ?_)
 refine An (fun g9 => ?_) (fun g9 => ?_)
 refine An (fun g10 => ?_) (fun g10 => ?_)
 refine eX [.int .i64 (p0.Count.Buckets.length : Int)] (An (lenS enc_api_Bucket p0.Count.Buckets) ?_)
 exact eX [] (eX [] (eX () (An trivial (r2 (An (Eq.symm (aR g6 (oR (oR (oR (oR g7 g8) g9) g10) rfl))) (r8 (r3 (fr (r4 (fr (r5 (fr (r6 (fr (r5 (fr (r3 (fr (r1 (fr (r4 (fr (fr (r3 (fr (r4 (fr (r5 (fr (r6 (fr (r5 (fr trivial)))))))))))))))))))))))))))))))))
 exact eX [] (eX [] (eX () (An trivial (r2 (An (Eq.symm (aR g6 (oL (oR (oR (oR g7 g8) g9) g10)))) (r8 (r3 (fr (r4 (fr (r5 (fr (r6 (fr (r5 (fr (r3 (fr (r1 (fr (r4 (fr (fr (r3 (fr (r4 (fr (r5 (fr (r6 (fr (r5 (fr trivial)))))))))))))))))))))))))))))))))
 exact eX [] (eX [] (eX () (An trivial (r2 (An (Eq.symm (aR g6 (oL (oL (oR (oR g7 g8) g9))))) (r8 (r3 (fr (r4 (fr (r5 (fr (r6 (fr (r5 (fr (r3 (fr (r1 (fr (r4 (fr (fr (r3 (fr (r4 (fr (r5 (fr (r6 (fr (r5 (fr trivial)))))))))))))))))))))))))))))))))
 exact eX [] (eX [] (eX () (An trivial (r2 (An (Eq.symm (aR g6 (oL (oL (oL (oR g7 g8)))))) (r8 (r3 (fr (r4 (fr (r5 (fr (r6 (fr (r5 (fr (r3 (fr (r1 (fr (r4 (fr (fr (r3 (fr (r4 (fr (r5 (fr (r6 (fr (r5 (fr trivial)))))))))))))))))))))))))))))))))
 exact eX [] (eX [] (eX () (An trivial (r2 (An (Eq.symm (aR g6 (oL (oL (oL (oL g7)))))) (r8 (r3 (fr (r4 (fr (r5 (fr (r6 (fr (r5 (fr (r3 (fr (r1 (fr (r4 (fr (fr (r3 (fr (r4 (fr (r5 (fr (r6 (fr (r5 (fr trivial)))))))))))))))))))))))))))))))))
 exact eX [] (eX [] (eX () (An trivial (r2 (An (Eq.symm (aL g6)) (r8 (r3 (fr (r4 (fr (r5 (fr (r6 (fr (r5 (fr (r3 (fr (r1 (fr (r4 (fr (fr (r3 (fr (r4 (fr (r5 (fr (r6 (fr (r5 (fr trivial)))))))))))))))))))))))))))))))))
 refine An (fun g11 => ?_) (fun g11 => ?_)
 replace h := cT g11 h
 refine eN ?_
 first | subst h | rw [← h]
 exact (r1 trivial)
 replace h := cF g11 h
 refine eN ?_
 refine eX (some (⟨Unit, fun _ => [(.tmp 1, .av (.ptr 1 0)), (.tmp 3, .av (.int .i64 p0.Config.Kind)), (.tmp 7, .av (.ptr 526 0)), (.tmp 8, .av (.ptr 527 0)), (.tmp 110, .av (.sb ((p0.Config.Kind != (3:Int)) && ((((((p0.Sum.W != (0:Int)) || (p0.Sum.K != (0:Int))) || (p0.Sum.Cap != (0:Int))) || (p0.Sum.Max != (0:Int))) || (p0.Sum.Now != (0:Int))) || (decide ((p0.Sum.Buckets.length : Int) > (0:Int))))))), (.box 1, .box (enc_api_Synopsis p0)), (.box 526, .box (enc_api_Smooth p0.Smooth)), (.box 527, .box (enc_api_Spread p0.Spread))], fun _ => True, fun _ => 0⟩, 3000000)) (An ?_ (fun _ _ => ?_))
 refine An (fun g12 => ?_) (fun g12 => ?_)
 refine An (fun g13 => ?_) (fun g13 => ?_)
 refine An (fun g14 => ?_) (fun g14 => ?_)
 refine An (fun g15 => ?_) (fun g15 => ?_)
 refine An (fun g16 => ?_) (fun g16 => ?_)
 refine An (fun g17 => ?_) (fun g17 => ?_)
 refine eX [.int .i64 (p0.Sum.Buckets.length : Int)] (An (lenS enc_api_Bucket p0.Sum.Buckets) ?_)
 exact eX [] (eX [] (eX () (An trivial (r2 (An (Eq.symm (aR g12 (oR (oR (oR (oR (oR g13 g14) g15) g16) g17) rfl))) (r8 (r3 (fr (r4 (fr (r5 (fr (r6 (fr (r5 (fr (r3 (fr (r1 (fr (r4 (fr (fr (r3 (fr (r4 (fr (r6 (fr (r5 (fr trivial)))))))))))))))))))))))))))))))
 exact eX [] (eX [] (eX () (An trivial (r2 (An (Eq.symm (aR g12 (oL (oR (oR (oR (oR g13 g14) g15) g16) g17)))) (r8 (r3 (fr (r4 (fr (r5 (fr (r6 (fr (r5 (fr (r3 (fr (r1 (fr (r4 (fr (fr (r3 (fr (r4 (fr (r6 (fr (r5 (fr trivial)))))))))))))))))))))))))))))))
 exact eX [] (eX [] (eX () (An trivial (r2 (An (Eq.symm (aR g12 (oL (oL (oR (oR (oR g13 g14) g15) g16))))) (r8 (r3 (fr (r4 (fr (r5 (fr (r6 (fr (r5 (fr (r3 (fr (r1 (fr (r4 (fr (fr (r3 (fr (r4 (fr (r6 (fr (r5 (fr trivial)))))))))))))))))))))))))))))))
 exact eX [] (eX [] (eX () (An trivial (r2 (An (Eq.symm (aR g12 (oL (oL (oL (oR (oR g13 g14) g15)))))) (r8 (r3 (fr (r4 (fr (r5 (fr (r6 (fr (r5 (fr (r3 (fr (r1 (fr (r4 (fr (fr (r3 (fr (r4 (fr (r6 (fr (r5 (fr trivial)))))))))))))))))))))))))))))))
 exact eX [] (eX [] (eX () (An trivial (r2 (An (Eq.symm (aR g12 (oL (oL (oL (oL (oR g13 g14))))))) (r8 (r3 (fr (r4 (fr (r5 (fr (r6 (fr (r5 (fr (r3 (fr (r1 (fr (r4 (fr (fr (r3 (fr (r4 (fr (r6 (fr (r5 (fr trivial)))))))))))))))))))))))))))))))
 exact eX [] (eX [] (eX () (An trivial (r2 (An (Eq.symm (aR g12 (oL (oL (oL (oL (oL g13))))))) (r8 (r3 (fr (r4 (fr (r5 (fr (r6 (fr (r5 (fr (r3 (fr (r1 (fr (r4 (fr (fr (r3 (fr (r4 (fr (r6 (fr (r5 (fr trivial)))))))))))))))))))))))))))))))
 exact eX [] (eX [] (eX () (An trivial (r2 (An (Eq.symm (aL g12)) (r8 (r3 (fr (r4 (fr (r5 (fr (r6 (fr (r5 (fr (r3 (fr (r1 (fr (r4 (fr (fr (r3 (fr (r4 (fr (r6 (fr (r5 (fr trivial)))))))))))))))))))))))))))))))
 refine An (fun g18 => ?_) (fun g18 => ?_)
 replace h := cT g18 h
 refine eN ?_
 first | subst h | rw [← h]
 exact (r1 trivial)
 replace h := cF g18 h
 refine eN ?_
 refine eX (some (⟨Unit, fun _ => [(.tmp 1, .av (.ptr 1 0)), (.tmp 3, .av (.int .i64 p0.Config.Kind)), (.tmp 8, .av (.ptr 527 0)), (.tmp 148, .av (.sb ((p0.Config.Kind != (4:Int)) && (((((((p0.Smooth.Agg != (0:Int)) || (p0.Smooth.W != (0:Int))) || (p0.Smooth.K != (0:Int))) || (p0.Smooth.Cap != (0:Int))) || (p0.Smooth.Now != (0:Int))) || (p0.Smooth.Seq != (0:Int))) || (decide ((p0.Smooth.Marks.length : Int) > (0:Int))))))), (.box 1, .box (enc_api_Synopsis p0)), (.box 527, .box (enc_api_Spread p0.Spread))], fun _ => True, fun _ => 0⟩, 4000000)) (An ?_ (fun _ _ => ?_))
 refine An (fun g19 => ?_) (fun g19 => ?_)
 refine An (fun g20 => ?_) (fun g20 => ?_)
 refine An (fun g21 => ?_) (fun g21 => ?_)
 refine An (fun g22 => ?_) (fun g22 => ?_)
 refine An (fun g23 => ?_) (fun g23 => ?_)
 refine An (fun g24 => ?_) (fun g24 => ?_)
 refine An (fun g25 => ?_) (fun g25 => ?_)
 refine eX [.int .i64 (p0.Smooth.Marks.length : Int)] (An (lenS enc_api_Mark p0.Smooth.Marks) ?_)
 exact eX [] (eX [] (eX () (An trivial (r2 (An (Eq.symm (aR g19 (oR (oR (oR (oR (oR (oR g20 g21) g22) g23) g24) g25) rfl))) (r8 (r3 (fr (r4 (fr (r5 (fr (r6 (fr (r5 (fr (r3 (fr (r1 (fr (r4 (fr (fr (r3 (fr (r4 (fr (r5 (fr trivial)))))))))))))))))))))))))))))
 exact eX [] (eX [] (eX () (An trivial (r2 (An (Eq.symm (aR g19 (oL (oR (oR (oR (oR (oR g20 g21) g22) g23) g24) g25)))) (r8 (r3 (fr (r4 (fr (r5 (fr (r6 (fr (r5 (fr (r3 (fr (r1 (fr (r4 (fr (fr (r3 (fr (r4 (fr (r5 (fr trivial)))))))))))))))))))))))))))))
 exact eX [] (eX [] (eX () (An trivial (r2 (An (Eq.symm (aR g19 (oL (oL (oR (oR (oR (oR g20 g21) g22) g23) g24))))) (r8 (r3 (fr (r4 (fr (r5 (fr (r6 (fr (r5 (fr (r3 (fr (r1 (fr (r4 (fr (fr (r3 (fr (r4 (fr (r5 (fr trivial)))))))))))))))))))))))))))))
 exact eX [] (eX [] (eX () (An trivial (r2 (An (Eq.symm (aR g19 (oL (oL (oL (oR (oR (oR g20 g21) g22) g23)))))) (r8 (r3 (fr (r4 (fr (r5 (fr (r6 (fr (r5 (fr (r3 (fr (r1 (fr (r4 (fr (fr (r3 (fr (r4 (fr (r5 (fr trivial)))))))))))))))))))))))))))))
 exact eX [] (eX [] (eX () (An trivial (r2 (An (Eq.symm (aR g19 (oL (oL (oL (oL (oR (oR g20 g21) g22))))))) (r8 (r3 (fr (r4 (fr (r5 (fr (r6 (fr (r5 (fr (r3 (fr (r1 (fr (r4 (fr (fr (r3 (fr (r4 (fr (r5 (fr trivial)))))))))))))))))))))))))))))
 exact eX [] (eX [] (eX () (An trivial (r2 (An (Eq.symm (aR g19 (oL (oL (oL (oL (oL (oR g20 g21)))))))) (r8 (r3 (fr (r4 (fr (r5 (fr (r6 (fr (r5 (fr (r3 (fr (r1 (fr (r4 (fr (fr (r3 (fr (r4 (fr (r5 (fr trivial)))))))))))))))))))))))))))))
 exact eX [] (eX [] (eX () (An trivial (r2 (An (Eq.symm (aR g19 (oL (oL (oL (oL (oL (oL g20)))))))) (r8 (r3 (fr (r4 (fr (r5 (fr (r6 (fr (r5 (fr (r3 (fr (r1 (fr (r4 (fr (fr (r3 (fr (r4 (fr (r5 (fr trivial)))))))))))))))))))))))))))))
 exact eX [] (eX [] (eX () (An trivial (r2 (An (Eq.symm (aL g19)) (r8 (r3 (fr (r4 (fr (r5 (fr (r6 (fr (r5 (fr (r3 (fr (r1 (fr (r4 (fr (fr (r3 (fr (r4 (fr (r5 (fr trivial)))))))))))))))))))))))))))))
 refine An (fun g26 => ?_) (fun g26 => ?_)
 replace h := cT g26 h
 refine eN ?_
 first | subst h | rw [← h]
 exact (r1 trivial)
 replace h := cF g26 h
 refine eN ?_
 refine eX (some (⟨Unit, fun _ => [(.tmp 1, .av (.ptr 1 0)), (.tmp 3, .av (.int .i64 p0.Config.Kind)), (.tmp 181, .av (.sb ((p0.Config.Kind != (5:Int)) && ((((((p0.Spread.W != (0:Int)) || (p0.Spread.K != (0:Int))) || (p0.Spread.Cap != (0:Int))) || (p0.Spread.Now != (0:Int))) || (p0.Spread.Seq != (0:Int))) || (decide ((p0.Spread.Marks.length : Int) > (0:Int))))))), (.box 1, .box (enc_api_Synopsis p0))], fun _ => True, fun _ => 0⟩, 5000000)) (An ?_ (fun _ _ => ?_))
 refine An (fun g27 => ?_) (fun g27 => ?_)
 refine An (fun g28 => ?_) (fun g28 => ?_)
 refine An (fun g29 => ?_) (fun g29 => ?_)
 refine An (fun g30 => ?_) (fun g30 => ?_)
 refine An (fun g31 => ?_) (fun g31 => ?_)
 refine An (fun g32 => ?_) (fun g32 => ?_)
 refine eX [.int .i64 (p0.Spread.Marks.length : Int)] (An (lenS enc_api_Mark p0.Spread.Marks) ?_)
 exact eX [] (eX [] (eX () (An trivial (r2 (An (Eq.symm (aR g27 (oR (oR (oR (oR (oR g28 g29) g30) g31) g32) rfl))) (r8 (r3 (fr (r4 (fr (r5 (fr (r6 (fr (r5 (fr (r3 (fr (r1 (fr (r4 (fr (fr (r3 (fr (r4 (fr trivial)))))))))))))))))))))))))))
 exact eX [] (eX [] (eX () (An trivial (r2 (An (Eq.symm (aR g27 (oL (oR (oR (oR (oR g28 g29) g30) g31) g32)))) (r8 (r3 (fr (r4 (fr (r5 (fr (r6 (fr (r5 (fr (r3 (fr (r1 (fr (r4 (fr (fr (r3 (fr (r4 (fr trivial)))))))))))))))))))))))))))
 exact eX [] (eX [] (eX () (An trivial (r2 (An (Eq.symm (aR g27 (oL (oL (oR (oR (oR g28 g29) g30) g31))))) (r8 (r3 (fr (r4 (fr (r5 (fr (r6 (fr (r5 (fr (r3 (fr (r1 (fr (r4 (fr (fr (r3 (fr (r4 (fr trivial)))))))))))))))))))))))))))
 exact eX [] (eX [] (eX () (An trivial (r2 (An (Eq.symm (aR g27 (oL (oL (oL (oR (oR g28 g29) g30)))))) (r8 (r3 (fr (r4 (fr (r5 (fr (r6 (fr (r5 (fr (r3 (fr (r1 (fr (r4 (fr (fr (r3 (fr (r4 (fr trivial)))))))))))))))))))))))))))
 exact eX [] (eX [] (eX () (An trivial (r2 (An (Eq.symm (aR g27 (oL (oL (oL (oL (oR g28 g29))))))) (r8 (r3 (fr (r4 (fr (r5 (fr (r6 (fr (r5 (fr (r3 (fr (r1 (fr (r4 (fr (fr (r3 (fr (r4 (fr trivial)))))))))))))))))))))))))))
 exact eX [] (eX [] (eX () (An trivial (r2 (An (Eq.symm (aR g27 (oL (oL (oL (oL (oL g28))))))) (r8 (r3 (fr (r4 (fr (r5 (fr (r6 (fr (r5 (fr (r3 (fr (r1 (fr (r4 (fr (fr (r3 (fr (r4 (fr trivial)))))))))))))))))))))))))))
 exact eX [] (eX [] (eX () (An trivial (r2 (An (Eq.symm (aL g27)) (r8 (r3 (fr (r4 (fr (r5 (fr (r6 (fr (r5 (fr (r3 (fr (r1 (fr (r4 (fr (fr (r3 (fr (r4 (fr trivial)))))))))))))))))))))))))))
 refine An (fun g33 => ?_) (fun g33 => ?_)
 replace h := cT g33 h
 refine eN ?_
 first | subst h | rw [← h]
 exact (r1 trivial)
 replace h := cF g33 h
 refine eN (eN ?_)
 refine eX (some (⟨Unit, fun _ => [(.tmp 1, .av (.ptr 1 0)), (.tmp 3, .av (.int .i64 p0.Config.Kind)), (.tmp 10, .av (.ptr 5000011 0)), (.tmp 11, .av (.ptr 5000012 0)), (.tmp 12, .av (.ptr 5000013 0)), (.tmp 13, .av (.ptr 5000014 0)), (.tmp 214, .av (.sb ((p0.Config.Kind != (6:Int)) && ((((p0.Poly.P != (0:Int)) || (p0.Poly.Land != (0:Int))) || (p0.Poly.Now != (0:Int))) || (decide ((p0.Poly.Moments.length : Int) > (0:Int))))))), (.box 1, .box (enc_api_Synopsis p0)), (.box 5000011, .box [.int .i64 p0.Halve.Now, .lst 1 false (List.map (eI .i64) p0.Halve.Sums)]), (.box 5000012, .box (enc_api_Extreme p0.Extreme)), (.box 5000013, .box (enc_api_Summary p0.Summary)), (.box 5000014, .box (enc_api_Quantile p0.Quantile))], fun _ => True, fun _ => 0⟩, 6000000)) (An ?_ (fun _ _ => ?_))
 refine An (fun g34 => ?_) (fun g34 => ?_)
 refine An (fun g35 => ?_) (fun g35 => ?_)
 refine An (fun g36 => ?_) (fun g36 => ?_)
 refine An (fun g37 => ?_) (fun g37 => ?_)
 refine eX [.int .i64 (p0.Poly.Moments.length : Int)] (An (lenS enc_api_Wide p0.Poly.Moments) ?_)
 exact eX [] (eX [] (eX () (An trivial (r2 (An (Eq.symm (aR g34 (oR (oR (oR g35 g36) g37) rfl))) (r8 (r3 (fr (r4 (fr (r5 (fr (r6 (fr (r5 (fr (r3 (fr (r1 (fr (r4 (fr (fr (r3 (fr (r4 (fr (r1 (fr (r4 (fr (r3 (fr (r4 (fr trivial)))))))))))))))))))))))))))))))))))
 exact eX [] (eX [] (eX () (An trivial (r2 (An (Eq.symm (aR g34 (oL (oR (oR g35 g36) g37)))) (r8 (r3 (fr (r4 (fr (r5 (fr (r6 (fr (r5 (fr (r3 (fr (r1 (fr (r4 (fr (fr (r3 (fr (r4 (fr (r1 (fr (r4 (fr (r3 (fr (r4 (fr trivial)))))))))))))))))))))))))))))))))))
 exact eX [] (eX [] (eX () (An trivial (r2 (An (Eq.symm (aR g34 (oL (oL (oR g35 g36))))) (r8 (r3 (fr (r4 (fr (r5 (fr (r6 (fr (r5 (fr (r3 (fr (r1 (fr (r4 (fr (fr (r3 (fr (r4 (fr (r1 (fr (r4 (fr (r3 (fr (r4 (fr trivial)))))))))))))))))))))))))))))))))))
 exact eX [] (eX [] (eX () (An trivial (r2 (An (Eq.symm (aR g34 (oL (oL (oL g35))))) (r8 (r3 (fr (r4 (fr (r5 (fr (r6 (fr (r5 (fr (r3 (fr (r1 (fr (r4 (fr (fr (r3 (fr (r4 (fr (r1 (fr (r4 (fr (r3 (fr (r4 (fr trivial)))))))))))))))))))))))))))))))))))
 exact eX [] (eX [] (eX () (An trivial (r2 (An (Eq.symm (aL g34)) (r8 (r3 (fr (r4 (fr (r5 (fr (r6 (fr (r5 (fr (r3 (fr (r1 (fr (r4 (fr (fr (r3 (fr (r4 (fr (r1 (fr (r4 (fr (r3 (fr (r4 (fr trivial)))))))))))))))))))))))))))))))))))
 refine An (fun g38 => ?_) (fun g38 => ?_)
 replace h := cT g38 h
 refine eN ?_
 first | subst h | rw [← h]
 exact (r1 trivial)
 replace h := cF g38 h
 refine eN ?_
 refine eX (some (⟨Unit, fun _ => [(.tmp 1, .av (.ptr 1 0)), (.tmp 3, .av (.int .i64 p0.Config.Kind)), (.tmp 11, .av (.ptr 5000012 0)), (.tmp 12, .av (.ptr 5000013 0)), (.tmp 13, .av (.ptr 5000014 0)), (.tmp 227, .av (.sb ((p0.Config.Kind != (7:Int)) && ((p0.Halve.Now != (0:Int)) || (decide ((p0.Halve.Sums.length : Int) > (0:Int))))))), (.box 1, .box (enc_api_Synopsis p0)), (.box 5000012, .box (enc_api_Extreme p0.Extreme)), (.box 5000013, .box (enc_api_Summary p0.Summary)), (.box 5000014, .box (enc_api_Quantile p0.Quantile))], fun _ => True, fun _ => 0⟩, 7000000)) (An ?_ (fun _ _ => ?_))
 refine An (fun g39 => ?_) (fun g39 => ?_)
 refine An (fun g40 => ?_) (fun g40 => ?_)
 refine eX [.int .i64 (p0.Halve.Sums.length : Int)] (An (lenS (eI .i64) p0.Halve.Sums) ?_)
 exact eX [] (eX [] (eX () (An trivial (r2 (An (Eq.symm (aR g39 (oR g40 rfl))) (r8 (r3 (fr (r4 (fr (r5 (fr (r6 (fr (r5 (fr (r3 (fr (r1 (fr (r4 (fr (fr (r3 (fr (r4 (fr (r4 (fr (r3 (fr (r4 (fr trivial)))))))))))))))))))))))))))))))))
 exact eX [] (eX [] (eX () (An trivial (r2 (An (Eq.symm (aR g39 (oL g40))) (r8 (r3 (fr (r4 (fr (r5 (fr (r6 (fr (r5 (fr (r3 (fr (r1 (fr (r4 (fr (fr (r3 (fr (r4 (fr (r4 (fr (r3 (fr (r4 (fr trivial)))))))))))))))))))))))))))))))))
 exact eX [] (eX [] (eX () (An trivial (r2 (An (Eq.symm (aL g39)) (r8 (r3 (fr (r4 (fr (r5 (fr (r6 (fr (r5 (fr (r3 (fr (r1 (fr (r4 (fr (fr (r3 (fr (r4 (fr (r4 (fr (r3 (fr (r4 (fr trivial)))))))))))))))))))))))))))))))))
 refine An (fun g41 => ?_) (fun g41 => ?_)
 replace h := cT g41 h
 refine eN ?_
 first | subst h | rw [← h]
 exact (r1 trivial)
 replace h := cF g41 h
 refine eN ?_
 refine eX (some (⟨Unit, fun _ => [(.tmp 1, .av (.ptr 1 0)), (.tmp 3, .av (.int .i64 p0.Config.Kind)), (.tmp 12, .av (.ptr 5000013 0)), (.tmp 13, .av (.ptr 5000014 0)), (.tmp 254, .av (.sb ((p0.Config.Kind != (8:Int)) && ((((p0.Extreme.Max || (p0.Extreme.W != (0:Int))) || (p0.Extreme.Cap != (0:Int))) || (p0.Extreme.Now != (0:Int))) || (decide ((p0.Extreme.Items.length : Int) > (0:Int))))))), (.box 1, .box (enc_api_Synopsis p0)), (.box 5000013, .box (enc_api_Summary p0.Summary)), (.box 5000014, .box (enc_api_Quantile p0.Quantile))], fun _ => True, fun _ => 0⟩, 8000000)) (An ?_ (fun _ _ => ?_))
 refine An (fun g42 => ?_) (fun g42 => ?_)
 refine An (fun g43 => ?_) (fun g43 => ?_)
 refine An (fun g44 => ?_) (fun g44 => ?_)
 refine An (fun g45 => ?_) (fun g45 => ?_)
 refine An (fun g46 => ?_) (fun g46 => ?_)
 refine eX [.int .i64 (p0.Extreme.Items.length : Int)] (An (lenS enc_api_Item p0.Extreme.Items) ?_)
 exact eX [] (eX [] (eX () (An trivial (r2 (An (Eq.symm (aR g42 (oR (oR (oR (oR g43 g44) g45) g46) rfl))) (r8 (r3 (fr (r4 (fr (r5 (fr (r6 (fr (r5 (fr (r3 (fr (r1 (fr (r4 (fr (fr (r3 (fr (r4 (fr (r3 (fr (r4 (fr trivial)))))))))))))))))))))))))))))))
 exact eX [] (eX [] (eX () (An trivial (r2 (An (Eq.symm (aR g42 (oL (oR (oR (oR g43 g44) g45) g46)))) (r8 (r3 (fr (r4 (fr (r5 (fr (r6 (fr (r5 (fr (r3 (fr (r1 (fr (r4 (fr (fr (r3 (fr (r4 (fr (r3 (fr (r4 (fr trivial)))))))))))))))))))))))))))))))
 exact eX [] (eX [] (eX () (An trivial (r2 (An (Eq.symm (aR g42 (oL (oL (oR (oR g43 g44) g45))))) (r8 (r3 (fr (r4 (fr (r5 (fr (r6 (fr (r5 (fr (r3 (fr (r1 (fr (r4 (fr (fr (r3 (fr (r4 (fr (r3 (fr (r4 (fr trivial)))))))))))))))))))))))))))))))
 exact eX [] (eX [] (eX () (An trivial (r2 (An (Eq.symm (aR g42 (oL (oL (oL (oR g43 g44)))))) (r8 (r3 (fr (r4 (fr (r5 (fr (r6 (fr (r5 (fr (r3 (fr (r1 (fr (r4 (fr (fr (r3 (fr (r4 (fr (r3 (fr (r4 (fr trivial)))))))))))))))))))))))))))))))
 exact eX [] (eX [] (eX () (An trivial (r2 (An (Eq.symm (aR g42 (oL (oL (oL (oL g43)))))) (r8 (r3 (fr (r4 (fr (r5 (fr (r6 (fr (r5 (fr (r3 (fr (r1 (fr (r4 (fr (fr (r3 (fr (r4 (fr (r3 (fr (r4 (fr trivial)))))))))))))))))))))))))))))))
 exact eX [] (eX [] (eX () (An trivial (r2 (An (Eq.symm (aL g42)) (r8 (r3 (fr (r4 (fr (r5 (fr (r6 (fr (r5 (fr (r3 (fr (r1 (fr (r4 (fr (fr (r3 (fr (r4 (fr (r3 (fr (r4 (fr trivial)))))))))))))))))))))))))))))))
 refine An (fun g47 => ?_) (fun g47 => ?_)
 replace h := cT g47 h
 refine eN ?_
 first | subst h | rw [← h]
 exact (r1 trivial)
 replace h := cF g47 h
 refine eN ?_
 refine eX (some (⟨Unit, fun _ => [(.tmp 3, .av (.int .i64 p0.Config.Kind)), (.tmp 12, .av (.ptr 5000013 0)), (.tmp 13, .av (.ptr 5000014 0)), (.tmp 263, .av (.sb ((p0.Config.Kind != (9:Int)) && (decide ((p0.Sample.Chains.length : Int) > (0:Int)))))), (.box 5000013, .box (enc_api_Summary p0.Summary)), (.box 5000014, .box (enc_api_Quantile p0.Quantile))], fun _ => True, fun _ => 0⟩, 9000000)) (An ?_ (fun _ _ => ?_))
 refine An (fun g48 => ?_) (fun g48 => ?_)
 refine eX [.int .i64 (p0.Sample.Chains.length : Int)] (An (lenS enc_api_Chain p0.Sample.Chains) ?_)
 exact eX [] (eX [] (eX () (An trivial (r2 (An (Eq.symm (aR g48 rfl)) (r3 (fr (r4 (fr trivial)))))))))
 exact eX [] (eX [] (eX () (An trivial (r2 (An (Eq.symm (aL g48)) (r3 (fr (r4 (fr trivial)))))))))
 refine An (fun g49 => ?_) (fun g49 => ?_)
 replace h := cT g49 h
 refine eN ?_
 first | subst h | rw [← h]
 exact (r1 trivial)
 replace h := cF g49 h
 refine eN ?_
 refine eX (some (⟨Unit, fun _ => [(.tmp 3, .av (.int .i64 p0.Config.Kind)), (.tmp 13, .av (.ptr 5000014 0)), (.tmp 286, .av (.sb ((p0.Config.Kind != (10:Int)) && ((((p0.Summary.K != (0:Int)) || (p0.Summary.Cap != (0:Int))) || (p0.Summary.N != (0:Int))) || (decide ((p0.Summary.Tuples.length : Int) > (0:Int))))))), (.box 5000014, .box (enc_api_Quantile p0.Quantile))], fun _ => True, fun _ => 0⟩, 10000000)) (An ?_ (fun _ _ => ?_))
 refine An (fun g50 => ?_) (fun g50 => ?_)
 refine An (fun g51 => ?_) (fun g51 => ?_)
 refine An (fun g52 => ?_) (fun g52 => ?_)
 refine An (fun g53 => ?_) (fun g53 => ?_)
 refine eX [.int .i64 (p0.Summary.Tuples.length : Int)] (An (lenS enc_api_Tuple p0.Summary.Tuples) ?_)
 exact eX [] (eX [] (eX () (An trivial (r2 (An (Eq.symm (aR g50 (oR (oR (oR g51 g52) g53) rfl))) (r4 (fr trivial)))))))
 exact eX [] (eX [] (eX () (An trivial (r2 (An (Eq.symm (aR g50 (oL (oR (oR g51 g52) g53)))) (r4 (fr trivial)))))))
 exact eX [] (eX [] (eX () (An trivial (r2 (An (Eq.symm (aR g50 (oL (oL (oR g51 g52))))) (r4 (fr trivial)))))))
 exact eX [] (eX [] (eX () (An trivial (r2 (An (Eq.symm (aR g50 (oL (oL (oL g51))))) (r4 (fr trivial)))))))
 exact eX [] (eX [] (eX () (An trivial (r2 (An (Eq.symm (aL g50)) (r4 (fr trivial)))))))
 refine An (fun g54 => ?_) (fun g54 => ?_)
 replace h := cT g54 h
 refine eN ?_
 first | subst h | rw [← h]
 exact (r1 trivial)
 replace h := cF g54 h
 refine eN (eN ?_)
 refine An (fun g55 => ?_) (fun g55 => ?_)
 refine An (fun g56 => ?_) (fun g56 => ?_)
 refine An (fun g57 => ?_) (fun g57 => ?_)
 refine An (fun g58 => ?_) (fun g58 => ?_)
 refine An (fun g59 => ?_) (fun g59 => ?_)
 refine eX [.int .i64 (p0.Quantile.Blocks.length : Int)] (An (lenS enc_api_Block p0.Quantile.Blocks) ?_)
 first | subst h | rw [← h]
 exact (An (Eq.symm (oR g55 (aR (aR (aR (aR g56 g57) g58) g59) rfl))) trivial)
 first | subst h | rw [← h]
 exact (An (Eq.symm (oR g55 (aL (aR (aR (aR g56 g57) g58) g59)))) trivial)
 first | subst h | rw [← h]
 exact (An (Eq.symm (oR g55 (aL (aL (aR (aR g56 g57) g58))))) trivial)
 first | subst h | rw [← h]
 exact (An (Eq.symm (oR g55 (aL (aL (aL (aR g56 g57)))))) trivial)
 first | subst h | rw [← h]
 exact (An (Eq.symm (oR g55 (aL (aL (aL (aL g56)))))) trivial)
 first | subst h | rw [← h]
 exact (An (Eq.symm (oL g55)) trivial)

theorem c_synopsis_Validate (p0 : api_Synopsis) (r : Int) (h : synopsis_Validate p0 = some r) : Contract Tryz.prog 29 [.agg (enc_api_Synopsis p0)] [] (.int .i64 r) [] := by
 refine contract_of_vcs tab_ok orders_ok Tryz.func29 Tryz.call29 (by kernel_rfl) 1 rfl rfl _ rfl ?_
 delta synopsis_Validate at h
 refine eN (eN ?_)
 obtain ⟨y1_6, e1_6, h⟩ := bS h
 refine eN ?_
 refine eX (CK.plain _ _) (An (ContractT.wk (c_config_Validate' p0.Config _ rfl) (r8 trivial)) (An rfl ?_))
 refine An (fun g1 => ?_) (fun g1 => ?_)
 refine eX (CK.plain _ _) (An (ContractT.wk (c_synopsis_right p0 y1_6 (gdT (nE g1) e1_6)) (r8 (r3 (fr (r4 (fr (r5 (fr (r6 (fr (r5 (fr (r3 (fr (r1 (fr (r4 (fr (fr (r3 (fr (r4 (fr trivial))))))))))))))))))))))) (An rfl ?_))
 refine An (fun g2 => ?_) (fun g2 => ?_)
 refine eX (CK.plain _ _) (An (ContractT.wk (c_synopsis_others' p0 _ rfl) (r8 (r3 (fr (r4 (fr (r5 (fr (r6 (fr (r5 (fr (r3 (fr (r1 (fr (r4 (fr (fr (r3 (fr (r4 (fr trivial))))))))))))))))))))))) (An rfl ?_))
 refine An (fun g3 => ?_) (fun g3 => ?_)
 replace h := cT (oR (oR g1 g2) g3) h
 refine eN ?_
 replace h := oJ h
 first | subst h | rw [← h]
 exact (r1 trivial)
 replace h := cF (oR (oR g1 g2) g3) h
 refine eN ?_
 replace h := oJ h
 first | subst h | rw [← h]
 exact (r1 trivial)
 replace h := cT (oL (oR g1 g2)) h
 refine eN ?_
 replace h := oJ h
 first | subst h | rw [← h]
 exact (r1 trivial)
 replace h := cT (oL (oL g1)) h
 refine eN ?_
 replace h := oJ h
 first | subst h | rw [← h]
 exact (r1 trivial)

theorem c_ref24_Plain' (p0 : api_Config) (r : api_Config) (h : ref24_Plain p0 = r) : Contract Tryz.prog 138 [.agg (enc_api_Config p0)] [] (.agg (enc_api_Config r)) [] := by
 refine contract_of_vcs tab_ok orders_ok Tryz.func138 Tryz.call138 (by kernel_rfl) 1 rfl rfl _ rfl ?_
 delta ref24_Plain at h
 refine eN (eN (eN (eN (eN ?_))))
 refine eX (some (⟨Int × Int × Int × Int × Int × Int × Int, fun q => [(.tmp 2, .av (.ptr 2 0)), (.tmp 3, .av (.ptr 260 0)), (.box 2, .box [.int .i64 (0:Int), .int .i64 (0:Int), .int .i64 (0:Int), .int .i64 (0:Int), .int .i64 (0:Int), .int .i64 (0:Int), .int .i64 (0:Int), .int .i64 (0:Int)]), (.box 260, .box [.int .i64 p0.Kind, .int .i64 q.1, .int .i64 q.2.1, .int .i64 q.2.2.1, .int .i64 q.2.2.2.1, .int .i64 q.2.2.2.2.1, .int .i64 q.2.2.2.2.2.1, .int .i64 q.2.2.2.2.2.2])], fun q => ref24_Plain_j2 p0 q.1 q.2.1 q.2.2.1 q.2.2.2.1 q.2.2.2.2.1 q.2.2.2.2.2.1 q.2.2.2.2.2.2 = r, fun _ => 0⟩, 1000000)) (An ?_ ?_)
 refine An (fun g1 => ?_) (fun g1 => ?_)
 replace h := cT g1 h
 refine eN ?_
 exact eX [] (eX [] (eX ((0:Int), p0.W, (0:Int), p0.Cap, (0:Int), (0:Int), (0:Int)) (An h (r16 (r1 trivial)))))
 replace h := cF g1 h
 refine eN ?_
 refine eX (some (⟨Bool, fun j3_17 => [(.tmp 1, .av (.ptr 1 0)), (.tmp 2, .av (.ptr 2 0)), (.tmp 3, .av (.ptr 260 0)), (.tmp 8, .av (.int .i64 p0.Kind)), (.tmp 17, .av (.sb j3_17)), (.box 1, .box (enc_api_Config p0)), (.box 2, .box [.int .i64 (0:Int), .int .i64 (0:Int), .int .i64 (0:Int), .int .i64 (0:Int), .int .i64 (0:Int), .int .i64 (0:Int), .int .i64 (0:Int), .int .i64 (0:Int)]), (.box 260, .box [.int .i64 p0.Kind, .int .i64 (0:Int), .int .i64 (0:Int), .int .i64 (0:Int), .int .i64 (0:Int), .int .i64 (0:Int), .int .i64 (0:Int), .int .i64 (0:Int)])], fun j3_17 => ref24_Plain_j3 p0 j3_17 = r, fun _ => 0⟩, 1000000)) (An ?_ ?_)
 refine An (fun g2 => ?_) (fun g2 => ?_)
 replace h := cT g2 h
 exact eX [] (eX [] (eX (p0.Kind == (2:Int)) (An h (r2 (An (Eq.symm g2) (r24 trivial))))))
 replace h := cF g2 h
 refine eN (eN ?_)
 refine An (fun g3 => ?_) (fun g3 => ?_)
 replace h := cT g3 h
 exact eX [] (eX [] (eX (p0.Kind == (5:Int)) (An h (r2 (An (Eq.symm g3) (r24 trivial))))))
 replace h := cF g3 h
 refine eN ?_
 exact eX [] (eX [] (eX (p0.Kind == (11:Int)) (An h (r24 (r3 trivial)))))
 clear h
 refine fun j3_17 h => ?_
 replace h : ref24_Plain_j3 p0 j3_17 = r := h
 delta ref24_Plain_j3 at h
 refine eN ?_
 refine An (fun g4 => ?_) (fun g4 => ?_)
 replace h := cT g4 h
 refine eN ?_
 exact eX [] (eX [] (eX ((0:Int), p0.W, p0.K, p0.Cap, (0:Int), (0:Int), (0:Int)) (An h (r16 (r1 trivial)))))
 replace h := cF g4 h
 refine eN (eN ?_)
 refine An (fun g5 => ?_) (fun g5 => ?_)
 replace h := cT g5 h
 refine eN ?_
 exact eX [] (eX [] (eX ((0:Int), p0.W, p0.K, p0.Cap, (0:Int), (0:Int), p0.Max) (An h (r16 (r1 trivial)))))
 replace h := cF g5 h
 refine eN (eN ?_)
 refine An (fun g6 => ?_) (fun g6 => ?_)
 replace h := cT g6 h
 refine eN ?_
 exact eX [] (eX [] (eX (p0.Agg, p0.W, p0.K, p0.Cap, (0:Int), (0:Int), (0:Int)) (An h (r16 (r1 trivial)))))
 replace h := cF g6 h
 refine eN (eN ?_)
 refine An (fun g7 => ?_) (fun g7 => ?_)
 replace h := cT g7 h
 refine eN ?_
 exact eX [] (eX [] (eX ((0:Int), (0:Int), (0:Int), (0:Int), p0.P, (0:Int), (0:Int)) (An h (r16 (r1 trivial)))))
 replace h := cF g7 h
 refine eN (eN ?_)
 refine An (fun g8 => ?_) (fun g8 => ?_)
 replace h := cT g8 h
 refine eN ?_
 exact eX [] (eX [] (eX ((0:Int), p0.W, (0:Int), (0:Int), (0:Int), (0:Int), (0:Int)) (An h (r16 (r1 trivial)))))
 replace h := cF g8 h
 refine eN (eN ?_)
 refine An (fun g9 => ?_) (fun g9 => ?_)
 replace h := cT g9 h
 refine eN ?_
 exact eX [] (eX [] (eX ((0:Int), p0.W, (0:Int), p0.Cap, (0:Int), (0:Int), p0.Max) (An h (r16 (r1 trivial)))))
 replace h := cF g9 h
 refine eN (eN ?_)
 refine An (fun g10 => ?_) (fun g10 => ?_)
 replace h := cT g10 h
 refine eN ?_
 exact eX [] (eX [] (eX ((0:Int), p0.W, (0:Int), p0.Cap, (0:Int), p0.Chains, (0:Int)) (An h (r16 (r1 trivial)))))
 replace h := cF g10 h
 refine eN (eN ?_)
 refine An (fun g11 => ?_) (fun g11 => ?_)
 replace h := cT g11 h
 refine eN ?_
 exact eX [] (eX [] (eX ((0:Int), (0:Int), p0.K, p0.Cap, (0:Int), (0:Int), (0:Int)) (An h (r16 (r1 trivial)))))
 replace h := cF g11 h
 exact eX [] (eX [] (eX ((0:Int), (0:Int), (0:Int), (0:Int), (0:Int), (0:Int), (0:Int)) (An h (r16 (r1 trivial)))))
 clear h
 refine fun q h => ?_
 obtain ⟨j2_b1x3_1, j2_b1x3_2, j2_b1x3_3, j2_b1x3_4, j2_b1x3_5, j2_b1x3_6, j2_b1x3_7⟩ := q
 replace h : ref24_Plain_j2 p0 j2_b1x3_1 j2_b1x3_2 j2_b1x3_3 j2_b1x3_4 j2_b1x3_5 j2_b1x3_6 j2_b1x3_7 = r := h
 delta ref24_Plain_j2 at h
 refine eN ?_
 first | subst h | rw [← h]
 exact (r8 trivial)

theorem c_ref06_Window' (p0 : Int) (r : Bool) (h : ref06_Window p0 = r) : Contract Tryz.prog 227 [.int .i64 p0] [] (.sb r) [] := by
 refine contract_of_vcs tab_ok orders_ok Tryz.func227 Tryz.call227 (by kernel_rfl) 1 rfl rfl _ rfl ?_
 delta ref06_Window at h
 refine eN (eN (eN ?_))
 refine An (fun g1 => ?_) (fun g1 => ?_)
 first | subst h | rw [← h]
 exact (An (Eq.symm (aR g1 rfl)) trivial)
 first | subst h | rw [← h]
 exact (An (Eq.symm (aL g1)) trivial)

theorem c_ref06_Tick' (p0 : Int) (r : Bool) (h : ref06_Tick p0 = r) : Contract Tryz.prog 55 [.int .i64 p0] [] (.sb r) [] := by
 refine contract_of_vcs tab_ok orders_ok Tryz.func55 Tryz.call55 (by kernel_rfl) 1 rfl rfl _ rfl ?_
 delta ref06_Tick at h
 refine eN (eN (eN ?_))
 refine An (fun g1 => ?_) (fun g1 => ?_)
 first | subst h | rw [← h]
 exact (An (Eq.symm (aR g1 rfl)) trivial)
 first | subst h | rw [← h]
 exact (An (Eq.symm (aL g1)) trivial)

theorem c_ref09_May' (p0 : Int) (p1 : Int) (p2 : Int) (r : Bool) (h : ref09_May p0 p1 p2 = r) : Contract Tryz.prog 140 [.int .i64 p0, .int .i64 p1, .int .i64 p2] [] (.sb r) [] := by
 refine contract_of_vcs tab_ok orders_ok Tryz.func140 Tryz.call140 (by kernel_rfl) 1 rfl rfl _ rfl ?_
 delta ref09_May at h
 refine eN (eN (eN ?_))
 refine eX (CK.plain _ _) (An (ContractT.wk (c_ref06_Window' p0 _ rfl) (r1 trivial)) (An rfl ?_))
 refine An (fun g1 => ?_) (fun g1 => ?_)
 refine An (fun g2 => ?_) (fun g2 => ?_)
 refine An (fun g3 => ?_) (fun g3 => ?_)
 refine eX (CK.plain _ _) (An (ContractT.wk (c_ref06_Tick' p2 _ rfl) (r1 trivial)) (An rfl ?_))
 first | subst h | rw [← h]
 exact (An (Eq.symm (aR (aR (aR g1 g2) g3) rfl)) trivial)
 first | subst h | rw [← h]
 exact (An (Eq.symm (aL (aR (aR g1 g2) g3))) trivial)
 first | subst h | rw [← h]
 exact (An (Eq.symm (aL (aL (aR g1 g2)))) trivial)
 first | subst h | rw [← h]
 exact (An (Eq.symm (aL (aL (aL g1)))) trivial)

theorem c_ref11_MayK' (p0 : Int) (r : Bool) (h : ref11_MayK p0 = r) : Contract Tryz.prog 141 [.int .i64 p0] [] (.sb r) [] := by
 refine contract_of_vcs tab_ok orders_ok Tryz.func141 Tryz.call141 (by kernel_rfl) 1 rfl rfl _ rfl ?_
 delta ref11_MayK at h
 refine eN (eN (eN ?_))
 refine An (fun g1 => ?_) (fun g1 => ?_)
 first | subst h | rw [← h]
 exact (An (Eq.symm (aR g1 rfl)) trivial)
 first | subst h | rw [← h]
 exact (An (Eq.symm (aL g1)) trivial)

theorem c_ref13_MayAgg' (p0 : Int) (r : Bool) (h : ref13_MayAgg p0 = r) : Contract Tryz.prog 143 [.int .i64 p0] [] (.sb r) [] := by
 refine contract_of_vcs tab_ok orders_ok Tryz.func143 Tryz.call143 (by kernel_rfl) 1 rfl rfl _ rfl ?_
 delta ref13_MayAgg at h
 refine eN (eN (eN ?_))
 refine An (fun g1 => ?_) (fun g1 => ?_)
 first | subst h | rw [← h]
 exact (An (Eq.symm (aR g1 rfl)) trivial)
 first | subst h | rw [← h]
 exact (An (Eq.symm (aL g1)) trivial)

theorem c_ref24_ranges' (p0 : api_Config) (r : Bool) (h : ref24_ranges p0 = r) : Contract Tryz.prog 139 [.agg (enc_api_Config p0)] [] (.sb r) [] := by
 refine contract_of_vcs tab_ok orders_ok Tryz.func139 Tryz.call139 (by kernel_rfl) 1 rfl rfl _ rfl ?_
 delta ref24_ranges at h
 refine eN (eN ?_)
 refine eX (CK.plain _ _) (An (ContractT.wk (c_ref09_May' p0.W p0.Cap (0:Int) _ rfl) (r3 trivial)) (An rfl ?_))
 refine eN (eN (eN (eN ?_)))
 refine An (fun g1 => ?_) (fun g1 => ?_)
 replace h := cT g1 h
 refine eN ?_
 first | subst h | rw [← h]
 exact (r1 trivial)
 replace h := cF g1 h
 refine eN ?_
 refine eX (some (⟨Bool, fun j3_14 => [(.tmp 1, .av (.ptr 1 0)), (.tmp 3, .av (.sb (ref09_May p0.W p0.Cap (0:Int)))), (.tmp 10, .av (.int .i64 p0.Kind)), (.tmp 14, .av (.sb j3_14)), (.box 1, .box (enc_api_Config p0))], fun j3_14 => ref24_ranges_j3 p0 (ref09_May p0.W p0.Cap (0:Int)) j3_14 = r, fun _ => 0⟩, 1000000)) (An ?_ ?_)
 refine An (fun g2 => ?_) (fun g2 => ?_)
 replace h := cT g2 h
 exact eX [] (eX [] (eX (p0.Kind == (2:Int)) (An h (r3 (An (Eq.symm g2) (r8 trivial))))))
 replace h := cF g2 h
 refine eN (eN ?_)
 refine An (fun g3 => ?_) (fun g3 => ?_)
 replace h := cT g3 h
 exact eX [] (eX [] (eX (p0.Kind == (5:Int)) (An h (r3 (An (Eq.symm g3) (r8 trivial))))))
 replace h := cF g3 h
 refine eN ?_
 exact eX [] (eX [] (eX (p0.Kind == (11:Int)) (An h (r12 trivial))))
 clear h
 refine fun j3_14 h => ?_
 replace h : ref24_ranges_j3 p0 (ref09_May p0.W p0.Cap (0:Int)) j3_14 = r := h
 delta ref24_ranges_j3 at h
 refine An (fun g4 => ?_) (fun g4 => ?_)
 replace h := cT g4 h
 refine eN (eN ?_)
 refine An (fun g5 => ?_) (fun g5 => ?_)
 refine eX (CK.plain _ _) (An (ContractT.wk (c_ref11_MayK' p0.K _ rfl) (r1 trivial)) (An rfl ?_))
 first | subst h | rw [← h]
 exact (An (Eq.symm (aR g5 rfl)) trivial)
 first | subst h | rw [← h]
 exact (An (Eq.symm (aL g5)) trivial)
 replace h := cF g4 h
 refine eN ?_
 refine An (fun g6 => ?_) (fun g6 => ?_)
 replace h := cT g6 h
 refine eN (eN ?_)
 refine An (fun g7 => ?_) (fun g7 => ?_)
 refine eX (CK.plain _ _) (An (ContractT.wk (c_ref11_MayK' p0.K _ rfl) (r1 trivial)) (An rfl ?_))
 refine An (fun g8 => ?_) (fun g8 => ?_)
 refine An (fun g9 => ?_) (fun g9 => ?_)
 first | subst h | rw [← h]
 exact (An (Eq.symm (aR (aR (aR g7 g8) g9) rfl)) trivial)
 first | subst h | rw [← h]
 exact (An (Eq.symm (aL (aR (aR g7 g8) g9))) trivial)
 first | subst h | rw [← h]
 exact (An (Eq.symm (aL (aL (aR g7 g8)))) trivial)
 first | subst h | rw [← h]
 exact (An (Eq.symm (aL (aL (aL g7)))) trivial)
 replace h := cF g6 h
 refine eN ?_
 refine An (fun g10 => ?_) (fun g10 => ?_)
 replace h := cT g10 h
 refine eN (eN ?_)
 refine An (fun g11 => ?_) (fun g11 => ?_)
 refine eX (CK.plain _ _) (An (ContractT.wk (c_ref11_MayK' p0.K _ rfl) (r1 trivial)) (An rfl ?_))
 refine An (fun g12 => ?_) (fun g12 => ?_)
 refine eX (CK.plain _ _) (An (ContractT.wk (c_ref13_MayAgg' p0.Agg _ rfl) (r1 trivial)) (An rfl ?_))
 first | subst h | rw [← h]
 exact (An (Eq.symm (aR (aR g11 g12) rfl)) trivial)
 first | subst h | rw [← h]
 exact (An (Eq.symm (aL (aR g11 g12))) trivial)
 first | subst h | rw [← h]
 exact (An (Eq.symm (aL (aL g11))) trivial)
 replace h := cF g10 h
 refine eN ?_
 refine An (fun g13 => ?_) (fun g13 => ?_)
 replace h := cT g13 h
 refine eN (eN ?_)
 refine An (fun g14 => ?_) (fun g14 => ?_)
 first | subst h | rw [← h]
 exact (An (Eq.symm (aR g14 rfl)) trivial)
 first | subst h | rw [← h]
 exact (An (Eq.symm (aL g14)) trivial)
 replace h := cF g13 h
 refine eN ?_
 refine An (fun g15 => ?_) (fun g15 => ?_)
 replace h := cT g15 h
 refine eN (eN ?_)
 refine An (fun g16 => ?_) (fun g16 => ?_)
 first | subst h | rw [← h]
 exact (An (Eq.symm (aR g16 rfl)) trivial)
 first | subst h | rw [← h]
 exact (An (Eq.symm (aL g16)) trivial)
 replace h := cF g15 h
 refine eN ?_
 refine An (fun g17 => ?_) (fun g17 => ?_)
 replace h := cT g17 h
 refine eN (eN ?_)
 refine An (fun g18 => ?_) (fun g18 => ?_)
 refine An (fun g19 => ?_) (fun g19 => ?_)
 first | subst h | rw [← h]
 exact (An (Eq.symm (aR g18 (oR g19 rfl))) trivial)
 first | subst h | rw [← h]
 exact (An (Eq.symm (aR g18 (oL g19))) trivial)
 first | subst h | rw [← h]
 exact (An (Eq.symm (aL g18)) trivial)
 replace h := cF g17 h
 refine eN ?_
 refine An (fun g20 => ?_) (fun g20 => ?_)
 replace h := cT g20 h
 refine eN (eN ?_)
 refine An (fun g21 => ?_) (fun g21 => ?_)
 refine An (fun g22 => ?_) (fun g22 => ?_)
 refine An (fun g23 => ?_) (fun g23 => ?_)
 refine An (fun g24 => ?_) (fun g24 => ?_)
 refine An (fun g25 => ?_) (fun g25 => ?_)
 first | subst h | rw [← h]
 exact (An (Eq.symm (aR (aR (aR (aR (aR g21 g22) g23) g24) g25) rfl)) trivial)
 first | subst h | rw [← h]
 exact (An (Eq.symm (aL (aR (aR (aR (aR g21 g22) g23) g24) g25))) trivial)
 first | subst h | rw [← h]
 exact (An (Eq.symm (aL (aL (aR (aR (aR g21 g22) g23) g24)))) trivial)
 first | subst h | rw [← h]
 exact (An (Eq.symm (aL (aL (aL (aR (aR g21 g22) g23))))) trivial)
 first | subst h | rw [← h]
 exact (An (Eq.symm (aL (aL (aL (aL (aR g21 g22)))))) trivial)
 first | subst h | rw [← h]
 exact (An (Eq.symm (aL (aL (aL (aL (aL g21)))))) trivial)
 replace h := cF g20 h
 refine eN ?_
 refine An (fun g26 => ?_) (fun g26 => ?_)
 replace h := cT g26 h
 refine eN (eN ?_)
 refine eX (CK.plain _ _) (An (ContractT.wk (c_ref11_MayK' p0.K _ rfl) (r1 trivial)) (An rfl ?_))
 refine An (fun g27 => ?_) (fun g27 => ?_)
 refine An (fun g28 => ?_) (fun g28 => ?_)
 first | subst h | rw [← h]
 exact (An (Eq.symm (aR (aR g27 g28) rfl)) trivial)
 first | subst h | rw [← h]
 exact (An (Eq.symm (aL (aR g27 g28))) trivial)
 first | subst h | rw [← h]
 exact (An (Eq.symm (aL (aL g27))) trivial)
 replace h := cF g26 h
 refine eN ?_
 first | subst h | rw [← h]
 exact (r1 trivial)

theorem c_ref24_Validate' (p0 : api_Config) (r : Int) (h : ref24_Validate p0 = r) : Contract Tryz.prog 54 [.agg (enc_api_Config p0)] [] (.int .i64 r) [] := by
 refine contract_of_vcs tab_ok orders_ok Tryz.func54 Tryz.call54 (by kernel_rfl) 1 rfl rfl _ rfl ?_
 delta ref24_Validate at h
 refine eN (eN (eN ?_))
 refine eX (CK.plain _ _) (An (ContractT.wk (c_ref24_Plain' p0 _ rfl) (r8 trivial)) (An rfl ?_))
 refine An (fun g1 => ?_) (fun g1 => ?_)
 refine eX (CK.plain _ _) (An (ContractT.wk (c_ref24_ranges' p0 _ rfl) (r8 trivial)) (An rfl ?_))
 refine An (fun g2 => ?_) (fun g2 => ?_)
 replace h := cT (oR g1 g2) h
 refine eN ?_
 first | subst h | rw [← h]
 exact (r1 trivial)
 replace h := cF (oR g1 g2) h
 refine eN ?_
 first | subst h | rw [← h]
 exact (r1 trivial)
 replace h := cT (oL g1) h
 refine eN ?_
 first | subst h | rw [← h]
 exact (r1 trivial)

theorem c_ref12_MayMax' (p0 : Int) (r : Bool) (h : ref12_MayMax p0 = r) : Contract Tryz.prog 142 [.int .i64 p0] [] (.sb r) [] := by
 refine contract_of_vcs tab_ok orders_ok Tryz.func142 Tryz.call142 (by kernel_rfl) 1 rfl rfl _ rfl ?_
 delta ref12_MayMax at h
 refine eN (eN (eN ?_))
 refine An (fun g1 => ?_) (fun g1 => ?_)
 first | subst h | rw [← h]
 exact (An (Eq.symm (aR g1 rfl)) trivial)
 first | subst h | rw [← h]
 exact (An (Eq.symm (aL g1)) trivial)

theorem c_ref20_New' (p0 : Int) (p1 : Int) (r : (api_Summary × Int)) (h : ref20_New p0 p1 = r) : Contract Tryz.prog 65 [.int .i64 p0, .int .i64 p1] [] (.tup [.agg (enc_api_Summary r.1), .int .i64 r.2]) [] := by
 refine contract_of_vcs tab_ok orders_ok Tryz.func65 Tryz.call65 (by kernel_rfl) 1 rfl rfl _ rfl ?_
 delta ref20_New at h
 refine eN (eN (eN ?_))
 refine eX (CK.plain _ _) (An (ContractT.wk (c_ref11_MayK' p0 _ rfl) (r1 trivial)) (An rfl ?_))
 refine An (fun g1 => ?_) (fun g1 => ?_)
 refine An (fun g2 => ?_) (fun g2 => ?_)
 refine An (fun g3 => ?_) (fun g3 => ?_)
 replace h := cT (oR (oR g1 g2) g3) h
 refine eN ?_
 first | subst h | rw [← h]
 exact (r5 trivial)
 replace h := cF (oR (oR g1 g2) g3) h
 refine eN ?_
 first | subst h | rw [← h]
 exact (r5 trivial)
 replace h := cT (oL (oR g1 g2)) h
 refine eN ?_
 first | subst h | rw [← h]
 exact (r5 trivial)
 replace h := cT (oL (oL g1)) h
 refine eN ?_
 first | subst h | rw [← h]
 exact (r5 trivial)

theorem c_ref05_SameItems (p0 : (List api_Item)) (p1 : (List api_Item)) (r : Bool) (h : ref05_SameItems p0 p1 = some r) : Contract Tryz.prog 145 [.lst 2 false (List.map enc_api_Item p0), .lst 2 false (List.map enc_api_Item p1)] [] (.sb r) [] := by
 refine contract_of_vcs tab_ok orders_ok Tryz.func145 Tryz.call145 (by kernel_rfl) 1 rfl rfl _ rfl ?_
 delta ref05_SameItems at h
 refine eN (eN ?_)
 refine eX [.int .i64 (p0.length : Int)] (An (lenS enc_api_Item p0) ?_)
 refine eX [.int .i64 (p1.length : Int)] (An (lenS enc_api_Item p1) ?_)
 refine An (fun g1 => ?_) (fun g1 => ?_)
 replace h := cT g1 h
 refine eN ?_
 replace h := oJ h
 first | subst h | rw [← h]
 exact (r1 trivial)
 replace h := cF g1 h
 refine eN ?_
 refine eX [.int .i64 (p0.length : Int)] (An (lenS enc_api_Item p0) ?_)
 replace h : ref05_SameItems_l3 p0 p1 (0:Int) = some r := h
 delta ref05_SameItems_l3 at h
 obtain ⟨n1, h⟩ := loopS h
 refine eX (Sum.inl ⟨Int × Nat, fun q => [(.tmp 0, .av (.lst 2 false (List.map enc_api_Item p0))), (.tmp 1, .av (.lst 2 false (List.map enc_api_Item p1))), (.tmp 12, .av (.int .i64 (p0.length : Int))), (.tmp 13, .av (.int .i64 q.1))], fun q => loopN (fun (s : Int) => ref05_SameItems_l3s p0 p1 s) q.2 q.1 = some r, fun q => q.2⟩) (An (eX [] (eX [] (eX ((0:Int), n1) (An h (r1 (fr (fr (r2 trivial)))))))) ?_)
 clear h
 refine fun q h => ?_
 obtain ⟨v3_13, n1⟩ := q
 obtain ⟨m1, x1, hm1, h, hl1, hr1⟩ := loopN_step h
 replace hm1 : n1 = m1 + 1 := hm1
 subst hm1
 replace h : ref05_SameItems_l3s p0 p1 v3_13 = some x1 := h
 delta ref05_SameItems_l3s at h
 refine eN ?_
 refine An (fun g2 => ?_) (fun g2 => ?_)
 replace h := cT g2 h
 refine eN (eN ?_)
 obtain ⟨x6_2, e6_2, h⟩ := bS h
 obtain ⟨x6_6, e6_6, h⟩ := bS h
 refine eX [.int .i64 x6_2.T, .int .i64 x6_2.V] (An (idx_map enc_api_Item e6_2) ?_)
 refine eX [.int .i64 x6_6.T, .int .i64 x6_6.V] (An (idx_map enc_api_Item e6_6) ?_)
 refine An (fun g3 => ?_) (fun g3 => ?_)
 replace h := cT g3 h
 refine eN ?_
 replace h := retS h hr1
 first | subst h | rw [← h]
 exact (r1 trivial)
 replace h := cF g3 h
 refine eN ?_
 exact eX [] (eX [] (eX ((w64 (v3_13 + (1:Int))), m1) (An (hl1 (w64 (v3_13 + (1:Int))) (oJ h).symm) (An (Nat.lt_succ_self m1) (r1 (fr (fr (r2 trivial))))))))
 replace h := cF g2 h
 replace h := popS h hr1
 refine eN ?_
 replace h := oJ h
 first | subst h | rw [← h]
 exact (r1 trivial)

theorem c_ref09_Same (p0 : api_Recent) (p1 : api_Recent) (r : Bool) (h : ref09_Same p0 p1 = some r) : Contract Tryz.prog 67 [.agg (enc_api_Recent p0), .agg (enc_api_Recent p1)] [] (.sb r) [] := by
 refine contract_of_vcs tab_ok orders_ok Tryz.func67 Tryz.call67 (by kernel_rfl) 1 rfl rfl _ rfl ?_
 delta ref09_Same at h
 refine eN (eN ?_)
 obtain ⟨y1_24, e1_24, h⟩ := bS h
 refine eN ?_
 refine An (fun g1 => ?_) (fun g1 => ?_)
 refine An (fun g2 => ?_) (fun g2 => ?_)
 refine An (fun g3 => ?_) (fun g3 => ?_)
 refine eX (CK.plain _ _) (An (ContractT.wk (c_ref05_SameItems p0.Items p1.Items y1_24 (gdT (aR (aR g1 g2) g3) e1_24)) (fr (fr trivial))) (An rfl ?_))
 replace h := oJ h
 first | subst h | rw [← h]
 exact (An (Eq.symm (aR (aR (aR g1 g2) g3) rfl)) trivial)
 replace h := oJ h
 first | subst h | rw [← h]
 exact (An (Eq.symm (aL (aR (aR g1 g2) g3))) trivial)
 replace h := oJ h
 first | subst h | rw [← h]
 exact (An (Eq.symm (aL (aL (aR g1 g2)))) trivial)
 replace h := oJ h
 first | subst h | rw [← h]
 exact (An (Eq.symm (aL (aL (aL g1)))) trivial)

theorem c_ref10_Same (p0 : (List api_Bucket)) (p1 : (List api_Bucket)) (r : Bool) (h : ref10_Same p0 p1 = some r) : Contract Tryz.prog 146 [.lst 2 false (List.map enc_api_Bucket p0), .lst 2 false (List.map enc_api_Bucket p1)] [] (.sb r) [] := by
 refine contract_of_vcs tab_ok orders_ok Tryz.func146 Tryz.call146 (by kernel_rfl) 1 rfl rfl _ rfl ?_
 delta ref10_Same at h
 refine eN (eN ?_)
 refine eX [.int .i64 (p0.length : Int)] (An (lenS enc_api_Bucket p0) ?_)
 refine eX [.int .i64 (p1.length : Int)] (An (lenS enc_api_Bucket p1) ?_)
 refine An (fun g1 => ?_) (fun g1 => ?_)
 replace h := cT g1 h
 refine eN ?_
 replace h := oJ h
 first | subst h | rw [← h]
 exact (r1 trivial)
 replace h := cF g1 h
 refine eN ?_
 refine eX [.int .i64 (p0.length : Int)] (An (lenS enc_api_Bucket p0) ?_)
 replace h : ref10_Same_l3 p0 p1 (0:Int) = some r := h
 delta ref10_Same_l3 at h
 obtain ⟨n1, h⟩ := loopS h
 refine eX (Sum.inl ⟨Int × Nat, fun q => [(.tmp 0, .av (.lst 2 false (List.map enc_api_Bucket p0))), (.tmp 1, .av (.lst 2 false (List.map enc_api_Bucket p1))), (.tmp 12, .av (.int .i64 (p0.length : Int))), (.tmp 13, .av (.int .i64 q.1))], fun q => loopN (fun (s : Int) => ref10_Same_l3s p0 p1 s) q.2 q.1 = some r, fun q => q.2⟩) (An (eX [] (eX [] (eX ((0:Int), n1) (An h (r1 (fr (fr (r2 trivial)))))))) ?_)
 clear h
 refine fun q h => ?_
 obtain ⟨v3_13, n1⟩ := q
 obtain ⟨m1, x1, hm1, h, hl1, hr1⟩ := loopN_step h
 replace hm1 : n1 = m1 + 1 := hm1
 subst hm1
 replace h : ref10_Same_l3s p0 p1 v3_13 = some x1 := h
 delta ref10_Same_l3s at h
 refine eN ?_
 refine An (fun g2 => ?_) (fun g2 => ?_)
 replace h := cT g2 h
 refine eN (eN ?_)
 obtain ⟨x6_2, e6_2, h⟩ := bS h
 obtain ⟨x6_6, e6_6, h⟩ := bS h
 refine eX [.int .i64 x6_2.T, .int .i64 x6_2.Level] (An (idx_map enc_api_Bucket e6_2) ?_)
 refine eX [.int .i64 x6_6.T, .int .i64 x6_6.Level] (An (idx_map enc_api_Bucket e6_6) ?_)
 refine An (fun g3 => ?_) (fun g3 => ?_)
 replace h := cT g3 h
 refine eN ?_
 replace h := retS h hr1
 first | subst h | rw [← h]
 exact (r1 trivial)
 replace h := cF g3 h
 refine eN ?_
 exact eX [] (eX [] (eX ((w64 (v3_13 + (1:Int))), m1) (An (hl1 (w64 (v3_13 + (1:Int))) (oJ h).symm) (An (Nat.lt_succ_self m1) (r1 (fr (fr (r2 trivial))))))))
 replace h := cF g2 h
 replace h := popS h hr1
 refine eN ?_
 replace h := oJ h
 first | subst h | rw [← h]
 exact (r1 trivial)

theorem c_ref11_Same (p0 : api_Count) (p1 : api_Count) (r : Bool) (h : ref11_Same p0 p1 = some r) : Contract Tryz.prog 68 [.agg (enc_api_Count p0), .agg (enc_api_Count p1)] [] (.sb r) [] := by
 refine contract_of_vcs tab_ok orders_ok Tryz.func68 Tryz.call68 (by kernel_rfl) 1 rfl rfl _ rfl ?_
 delta ref11_Same at h
 refine eN (eN ?_)
 obtain ⟨y1_31, e1_31, h⟩ := bS h
 refine eN ?_
 refine An (fun g1 => ?_) (fun g1 => ?_)
 refine An (fun g2 => ?_) (fun g2 => ?_)
 refine An (fun g3 => ?_) (fun g3 => ?_)
 refine An (fun g4 => ?_) (fun g4 => ?_)
 refine eX (CK.plain _ _) (An (ContractT.wk (c_ref10_Same p0.Buckets p1.Buckets y1_31 (gdT (aR (aR (aR g1 g2) g3) g4) e1_31)) (fr (fr trivial))) (An rfl ?_))
 replace h := oJ h
 first | subst h | rw [← h]
 exact (An (Eq.symm (aR (aR (aR (aR g1 g2) g3) g4) rfl)) trivial)
 replace h := oJ h
 first | subst h | rw [← h]
 exact (An (Eq.symm (aL (aR (aR (aR g1 g2) g3) g4))) trivial)
 replace h := oJ h
 first | subst h | rw [← h]
 exact (An (Eq.symm (aL (aL (aR (aR g1 g2) g3)))) trivial)
 replace h := oJ h
 first | subst h | rw [← h]
 exact (An (Eq.symm (aL (aL (aL (aR g1 g2))))) trivial)
 replace h := oJ h
 first | subst h | rw [← h]
 exact (An (Eq.symm (aL (aL (aL (aL g1))))) trivial)

theorem c_ref12_Same (p0 : api_Sum) (p1 : api_Sum) (r : Bool) (h : ref12_Same p0 p1 = some r) : Contract Tryz.prog 69 [.agg (enc_api_Sum p0), .agg (enc_api_Sum p1)] [] (.sb r) [] := by
 refine contract_of_vcs tab_ok orders_ok Tryz.func69 Tryz.call69 (by kernel_rfl) 1 rfl rfl _ rfl ?_
 delta ref12_Same at h
 refine eN (eN ?_)
 obtain ⟨y1_38, e1_38, h⟩ := bS h
 refine eN ?_
 refine An (fun g1 => ?_) (fun g1 => ?_)
 refine An (fun g2 => ?_) (fun g2 => ?_)
 refine An (fun g3 => ?_) (fun g3 => ?_)
 refine An (fun g4 => ?_) (fun g4 => ?_)
 refine An (fun g5 => ?_) (fun g5 => ?_)
 refine eX (CK.plain _ _) (An (ContractT.wk (c_ref10_Same p0.Buckets p1.Buckets y1_38 (gdT (aR (aR (aR (aR g1 g2) g3) g4) g5) e1_38)) (fr (fr trivial))) (An rfl ?_))
 replace h := oJ h
 first | subst h | rw [← h]
 exact (An (Eq.symm (aR (aR (aR (aR (aR g1 g2) g3) g4) g5) rfl)) trivial)
 replace h := oJ h
 first | subst h | rw [← h]
 exact (An (Eq.symm (aL (aR (aR (aR (aR g1 g2) g3) g4) g5))) trivial)
 replace h := oJ h
 first | subst h | rw [← h]
 exact (An (Eq.symm (aL (aL (aR (aR (aR g1 g2) g3) g4)))) trivial)
 replace h := oJ h
 first | subst h | rw [← h]
 exact (An (Eq.symm (aL (aL (aL (aR (aR g1 g2) g3))))) trivial)
 replace h := oJ h
 first | subst h | rw [← h]
 exact (An (Eq.symm (aL (aL (aL (aL (aR g1 g2)))))) trivial)
 replace h := oJ h
 first | subst h | rw [← h]
 exact (An (Eq.symm (aL (aL (aL (aL (aL g1)))))) trivial)

theorem c_ref13_SameMarks (p0 : (List api_Mark)) (p1 : (List api_Mark)) (r : Bool) (h : ref13_SameMarks p0 p1 = some r) : Contract Tryz.prog 147 [.lst 7 false (List.map enc_api_Mark p0), .lst 7 false (List.map enc_api_Mark p1)] [] (.sb r) [] := by
 refine contract_of_vcs tab_ok orders_ok Tryz.func147 Tryz.call147 (by kernel_rfl) 1 rfl rfl _ rfl ?_
 delta ref13_SameMarks at h
 refine eN (eN ?_)
 refine eX [.int .i64 (p0.length : Int)] (An (lenS enc_api_Mark p0) ?_)
 refine eX [.int .i64 (p1.length : Int)] (An (lenS enc_api_Mark p1) ?_)
 refine An (fun g1 => ?_) (fun g1 => ?_)
 replace h := cT g1 h
 refine eN ?_
 replace h := oJ h
 first | subst h | rw [← h]
 exact (r1 trivial)
 replace h := cF g1 h
 refine eN ?_
 refine eX [.int .i64 (p0.length : Int)] (An (lenS enc_api_Mark p0) ?_)
 replace h : ref13_SameMarks_l3 p0 p1 (0:Int) = some r := h
 delta ref13_SameMarks_l3 at h
 obtain ⟨n1, h⟩ := loopS h
 refine eX (Sum.inl ⟨Int × Nat, fun q => [(.tmp 0, .av (.lst 7 false (List.map enc_api_Mark p0))), (.tmp 1, .av (.lst 7 false (List.map enc_api_Mark p1))), (.tmp 12, .av (.int .i64 (p0.length : Int))), (.tmp 13, .av (.int .i64 q.1))], fun q => loopN (fun (s : Int) => ref13_SameMarks_l3s p0 p1 s) q.2 q.1 = some r, fun q => q.2⟩) (An (eX [] (eX [] (eX ((0:Int), n1) (An h (r1 (fr (fr (r2 trivial)))))))) ?_)
 clear h
 refine fun q h => ?_
 obtain ⟨v3_13, n1⟩ := q
 obtain ⟨m1, x1, hm1, h, hl1, hr1⟩ := loopN_step h
 replace hm1 : n1 = m1 + 1 := hm1
 subst hm1
 replace h : ref13_SameMarks_l3s p0 p1 v3_13 = some x1 := h
 delta ref13_SameMarks_l3s at h
 refine eN ?_
 refine An (fun g2 => ?_) (fun g2 => ?_)
 replace h := cT g2 h
 refine eN (eN ?_)
 obtain ⟨x6_2, e6_2, h⟩ := bS h
 obtain ⟨x6_6, e6_6, h⟩ := bS h
 refine eX (enc_api_Mark x6_2) (An (idx_map enc_api_Mark e6_2) ?_)
 refine eX (enc_api_Mark x6_6) (An (idx_map enc_api_Mark e6_6) ?_)
 refine An (fun g3 => ?_) (fun g3 => ?_)
 replace h := cT g3 h
 refine eN ?_
 replace h := retS h hr1
 first | subst h | rw [← h]
 exact (r1 trivial)
 replace h := cF g3 h
 refine eN ?_
 exact eX [] (eX [] (eX ((w64 (v3_13 + (1:Int))), m1) (An (hl1 (w64 (v3_13 + (1:Int))) (oJ h).symm) (An (Nat.lt_succ_self m1) (r1 (fr (fr (r2 trivial))))))))
 replace h := cF g2 h
 replace h := popS h hr1
 refine eN ?_
 replace h := oJ h
 first | subst h | rw [← h]
 exact (r1 trivial)

theorem c_ref13_Same (p0 : api_Smooth) (p1 : api_Smooth) (r : Bool) (h : ref13_Same p0 p1 = some r) : Contract Tryz.prog 70 [.agg (enc_api_Smooth p0), .agg (enc_api_Smooth p1)] [] (.sb r) [] := by
 refine contract_of_vcs tab_ok orders_ok Tryz.func70 Tryz.call70 (by kernel_rfl) 1 rfl rfl _ rfl ?_
 delta ref13_Same at h
 refine eN (eN ?_)
 obtain ⟨y1_45, e1_45, h⟩ := bS h
 refine eN ?_
 refine An (fun g1 => ?_) (fun g1 => ?_)
 refine An (fun g2 => ?_) (fun g2 => ?_)
 refine An (fun g3 => ?_) (fun g3 => ?_)
 refine An (fun g4 => ?_) (fun g4 => ?_)
 refine An (fun g5 => ?_) (fun g5 => ?_)
 refine An (fun g6 => ?_) (fun g6 => ?_)
 refine eX (CK.plain _ _) (An (ContractT.wk (c_ref13_SameMarks p0.Marks p1.Marks y1_45 (gdT (aR (aR (aR (aR (aR g1 g2) g3) g4) g5) g6) e1_45)) (fr (fr trivial))) (An rfl ?_))
 replace h := oJ h
 first | subst h | rw [← h]
 exact (An (Eq.symm (aR (aR (aR (aR (aR (aR g1 g2) g3) g4) g5) g6) rfl)) trivial)
 replace h := oJ h
 first | subst h | rw [← h]
 exact (An (Eq.symm (aL (aR (aR (aR (aR (aR g1 g2) g3) g4) g5) g6))) trivial)
 replace h := oJ h
 first | subst h | rw [← h]
 exact (An (Eq.symm (aL (aL (aR (aR (aR (aR g1 g2) g3) g4) g5)))) trivial)
 replace h := oJ h
 first | subst h | rw [← h]
 exact (An (Eq.symm (aL (aL (aL (aR (aR (aR g1 g2) g3) g4))))) trivial)
 replace h := oJ h
 first | subst h | rw [← h]
 exact (An (Eq.symm (aL (aL (aL (aL (aR (aR g1 g2) g3)))))) trivial)
 replace h := oJ h
 first | subst h | rw [← h]
 exact (An (Eq.symm (aL (aL (aL (aL (aL (aR g1 g2))))))) trivial)
 replace h := oJ h
 first | subst h | rw [← h]
 exact (An (Eq.symm (aL (aL (aL (aL (aL (aL g1))))))) trivial)

theorem c_ref14_Same (p0 : api_Spread) (p1 : api_Spread) (r : Bool) (h : ref14_Same p0 p1 = some r) : Contract Tryz.prog 71 [.agg (enc_api_Spread p0), .agg (enc_api_Spread p1)] [] (.sb r) [] := by
 refine contract_of_vcs tab_ok orders_ok Tryz.func71 Tryz.call71 (by kernel_rfl) 1 rfl rfl _ rfl ?_
 delta ref14_Same at h
 refine eN (eN ?_)
 obtain ⟨y1_38, e1_38, h⟩ := bS h
 refine eN ?_
 refine An (fun g1 => ?_) (fun g1 => ?_)
 refine An (fun g2 => ?_) (fun g2 => ?_)
 refine An (fun g3 => ?_) (fun g3 => ?_)
 refine An (fun g4 => ?_) (fun g4 => ?_)
 refine An (fun g5 => ?_) (fun g5 => ?_)
 refine eX (CK.plain _ _) (An (ContractT.wk (c_ref13_SameMarks p0.Marks p1.Marks y1_38 (gdT (aR (aR (aR (aR g1 g2) g3) g4) g5) e1_38)) (fr (fr trivial))) (An rfl ?_))
 replace h := oJ h
 first | subst h | rw [← h]
 exact (An (Eq.symm (aR (aR (aR (aR (aR g1 g2) g3) g4) g5) rfl)) trivial)
 replace h := oJ h
 first | subst h | rw [← h]
 exact (An (Eq.symm (aL (aR (aR (aR (aR g1 g2) g3) g4) g5))) trivial)
 replace h := oJ h
 first | subst h | rw [← h]
 exact (An (Eq.symm (aL (aL (aR (aR (aR g1 g2) g3) g4)))) trivial)
 replace h := oJ h
 first | subst h | rw [← h]
 exact (An (Eq.symm (aL (aL (aL (aR (aR g1 g2) g3))))) trivial)
 replace h := oJ h
 first | subst h | rw [← h]
 exact (An (Eq.symm (aL (aL (aL (aL (aR g1 g2)))))) trivial)
 replace h := oJ h
 first | subst h | rw [← h]
 exact (An (Eq.symm (aL (aL (aL (aL (aL g1)))))) trivial)

theorem c_ref15_SameWide (p0 : (List api_Wide)) (p1 : (List api_Wide)) (r : Bool) (h : ref15_SameWide p0 p1 = some r) : Contract Tryz.prog 148 [.lst 2 false (List.map enc_api_Wide p0), .lst 2 false (List.map enc_api_Wide p1)] [] (.sb r) [] := by
 refine contract_of_vcs tab_ok orders_ok Tryz.func148 Tryz.call148 (by kernel_rfl) 1 rfl rfl _ rfl ?_
 delta ref15_SameWide at h
 refine eN (eN ?_)
 refine eX [.int .i64 (p0.length : Int)] (An (lenS enc_api_Wide p0) ?_)
 refine eX [.int .i64 (p1.length : Int)] (An (lenS enc_api_Wide p1) ?_)
 refine An (fun g1 => ?_) (fun g1 => ?_)
 replace h := cT g1 h
 refine eN ?_
 replace h := oJ h
 first | subst h | rw [← h]
 exact (r1 trivial)
 replace h := cF g1 h
 refine eN ?_
 refine eX [.int .i64 (p0.length : Int)] (An (lenS enc_api_Wide p0) ?_)
 replace h : ref15_SameWide_l3 p0 p1 (0:Int) = some r := h
 delta ref15_SameWide_l3 at h
 obtain ⟨n1, h⟩ := loopS h
 refine eX (Sum.inl ⟨Int × Nat, fun q => [(.tmp 0, .av (.lst 2 false (List.map enc_api_Wide p0))), (.tmp 1, .av (.lst 2 false (List.map enc_api_Wide p1))), (.tmp 12, .av (.int .i64 (p0.length : Int))), (.tmp 13, .av (.int .i64 q.1))], fun q => loopN (fun (s : Int) => ref15_SameWide_l3s p0 p1 s) q.2 q.1 = some r, fun q => q.2⟩) (An (eX [] (eX [] (eX ((0:Int), n1) (An h (r1 (fr (fr (r2 trivial)))))))) ?_)
 clear h
 refine fun q h => ?_
 obtain ⟨v3_13, n1⟩ := q
 obtain ⟨m1, x1, hm1, h, hl1, hr1⟩ := loopN_step h
 replace hm1 : n1 = m1 + 1 := hm1
 subst hm1
 replace h : ref15_SameWide_l3s p0 p1 v3_13 = some x1 := h
 delta ref15_SameWide_l3s at h
 refine eN ?_
 refine An (fun g2 => ?_) (fun g2 => ?_)
 replace h := cT g2 h
 refine eN (eN ?_)
 obtain ⟨x6_2, e6_2, h⟩ := bS h
 obtain ⟨x6_6, e6_6, h⟩ := bS h
 refine eX [.int .u64 x6_2.Hi, .int .u64 x6_2.Lo] (An (idx_map enc_api_Wide e6_2) ?_)
 refine eX [.int .u64 x6_6.Hi, .int .u64 x6_6.Lo] (An (idx_map enc_api_Wide e6_6) ?_)
 refine An (fun g3 => ?_) (fun g3 => ?_)
 replace h := cT g3 h
 refine eN ?_
 replace h := retS h hr1
 first | subst h | rw [← h]
 exact (r1 trivial)
 replace h := cF g3 h
 refine eN ?_
 exact eX [] (eX [] (eX ((w64 (v3_13 + (1:Int))), m1) (An (hl1 (w64 (v3_13 + (1:Int))) (oJ h).symm) (An (Nat.lt_succ_self m1) (r1 (fr (fr (r2 trivial))))))))
 replace h := cF g2 h
 replace h := popS h hr1
 refine eN ?_
 replace h := oJ h
 first | subst h | rw [← h]
 exact (r1 trivial)

theorem c_ref15_Same (p0 : api_Poly) (p1 : api_Poly) (r : Bool) (h : ref15_Same p0 p1 = some r) : Contract Tryz.prog 72 [.agg (enc_api_Poly p0), .agg (enc_api_Poly p1)] [] (.sb r) [] := by
 refine contract_of_vcs tab_ok orders_ok Tryz.func72 Tryz.call72 (by kernel_rfl) 1 rfl rfl _ rfl ?_
 delta ref15_Same at h
 refine eN (eN ?_)
 obtain ⟨y1_24, e1_24, h⟩ := bS h
 refine eN ?_
 refine An (fun g1 => ?_) (fun g1 => ?_)
 refine An (fun g2 => ?_) (fun g2 => ?_)
 refine An (fun g3 => ?_) (fun g3 => ?_)
 refine eX (CK.plain _ _) (An (ContractT.wk (c_ref15_SameWide p0.Moments p1.Moments y1_24 (gdT (aR (aR g1 g2) g3) e1_24)) (fr (fr trivial))) (An rfl ?_))
 replace h := oJ h
 first | subst h | rw [← h]
 exact (An (Eq.symm (aR (aR (aR g1 g2) g3) rfl)) trivial)
 replace h := oJ h
 first | subst h | rw [← h]
 exact (An (Eq.symm (aL (aR (aR g1 g2) g3))) trivial)
 replace h := oJ h
 first | subst h | rw [← h]
 exact (An (Eq.symm (aL (aL (aR g1 g2)))) trivial)
 replace h := oJ h
 first | subst h | rw [← h]
 exact (An (Eq.symm (aL (aL (aL g1)))) trivial)

theorem c_ref09_SameNumbers (p0 : (List Int)) (p1 : (List Int)) (r : Bool) (h : ref09_SameNumbers p0 p1 = some r) : Contract Tryz.prog 14 [.lst 1 false (List.map (eI .i64) p0), .lst 1 false (List.map (eI .i64) p1)] [] (.sb r) [] := by
 refine contract_of_vcs tab_ok orders_ok Tryz.func14 Tryz.call14 (by kernel_rfl) 1 rfl rfl _ rfl ?_
 delta ref09_SameNumbers at h
 refine eN (eN ?_)
 refine eX [.int .i64 (p0.length : Int)] (An (lenS (eI .i64) p0) ?_)
 refine eX [.int .i64 (p1.length : Int)] (An (lenS (eI .i64) p1) ?_)
 refine An (fun g1 => ?_) (fun g1 => ?_)
 replace h := cT g1 h
 refine eN ?_
 replace h := oJ h
 first | subst h | rw [← h]
 exact (r1 trivial)
 replace h := cF g1 h
 refine eN ?_
 refine eX [.int .i64 (p0.length : Int)] (An (lenS (eI .i64) p0) ?_)
 replace h : ref09_SameNumbers_l3 p0 p1 (0:Int) = some r := h
 delta ref09_SameNumbers_l3 at h
 obtain ⟨n1, h⟩ := loopS h
 refine eX (Sum.inl ⟨Int × Nat, fun q => [(.tmp 0, .av (.lst 1 false (List.map (eI .i64) p0))), (.tmp 1, .av (.lst 1 false (List.map (eI .i64) p1))), (.tmp 12, .av (.int .i64 (p0.length : Int))), (.tmp 13, .av (.int .i64 q.1))], fun q => loopN (fun (s : Int) => ref09_SameNumbers_l3s p0 p1 s) q.2 q.1 = some r, fun q => q.2⟩) (An (eX [] (eX [] (eX ((0:Int), n1) (An h (r1 (fr (fr (r2 trivial)))))))) ?_)
 clear h
 refine fun q h => ?_
 obtain ⟨v3_13, n1⟩ := q
 obtain ⟨m1, x1, hm1, h, hl1, hr1⟩ := loopN_step h
 replace hm1 : n1 = m1 + 1 := hm1
 subst hm1
 replace h : ref09_SameNumbers_l3s p0 p1 v3_13 = some x1 := h
 delta ref09_SameNumbers_l3s at h
 refine eN ?_
 refine An (fun g2 => ?_) (fun g2 => ?_)
 replace h := cT g2 h
 refine eN (eN ?_)
 obtain ⟨x6_2, e6_2, h⟩ := bS h
 obtain ⟨x6_6, e6_6, h⟩ := bS h
 refine eX [.int .i64 x6_2] (An (idx_map (eI .i64) e6_2) ?_)
 refine eX [.int .i64 x6_6] (An (idx_map (eI .i64) e6_6) ?_)
 refine An (fun g3 => ?_) (fun g3 => ?_)
 replace h := cT g3 h
 refine eN ?_
 replace h := retS h hr1
 first | subst h | rw [← h]
 exact (r1 trivial)
 replace h := cF g3 h
 refine eN ?_
 exact eX [] (eX [] (eX ((w64 (v3_13 + (1:Int))), m1) (An (hl1 (w64 (v3_13 + (1:Int))) (oJ h).symm) (An (Nat.lt_succ_self m1) (r1 (fr (fr (r2 trivial))))))))
 replace h := cF g2 h
 replace h := popS h hr1
 refine eN ?_
 replace h := oJ h
 first | subst h | rw [← h]
 exact (r1 trivial)

theorem c_ref16_Same (p0 : api_Halve) (p1 : api_Halve) (r : Bool) (h : ref16_Same p0 p1 = some r) : Contract Tryz.prog 73 [.agg [.int .i64 p0.Now, .lst 1 false (List.map (eI .i64) p0.Sums)], .agg [.int .i64 p1.Now, .lst 1 false (List.map (eI .i64) p1.Sums)]] [] (.sb r) [] := by
 refine contract_of_vcs tab_ok orders_ok Tryz.func73 Tryz.call73 (by kernel_rfl) 1 rfl rfl _ rfl ?_
 delta ref16_Same at h
 refine eN (eN ?_)
 obtain ⟨y1_10, e1_10, h⟩ := bS h
 refine eN ?_
 refine An (fun g1 => ?_) (fun g1 => ?_)
 refine eX (CK.plain _ _) (An (ContractT.wk (c_ref09_SameNumbers p0.Sums p1.Sums y1_10 (gdT g1 e1_10)) (fr (fr trivial))) (An rfl ?_))
 replace h := oJ h
 first | subst h | rw [← h]
 exact (An (Eq.symm (aR g1 rfl)) trivial)
 replace h := oJ h
 first | subst h | rw [← h]
 exact (An (Eq.symm (aL g1)) trivial)

theorem c_ref17_Same (p0 : api_Extreme) (p1 : api_Extreme) (r : Bool) (h : ref17_Same p0 p1 = some r) : Contract Tryz.prog 74 [.agg (enc_api_Extreme p0), .agg (enc_api_Extreme p1)] [] (.sb r) [] := by
 refine contract_of_vcs tab_ok orders_ok Tryz.func74 Tryz.call74 (by kernel_rfl) 1 rfl rfl _ rfl ?_
 delta ref17_Same at h
 refine eN (eN ?_)
 obtain ⟨y1_31, e1_31, h⟩ := bS h
 refine eN ?_
 refine An (fun g1 => ?_) (fun g1 => ?_)
 refine An (fun g2 => ?_) (fun g2 => ?_)
 refine An (fun g3 => ?_) (fun g3 => ?_)
 refine An (fun g4 => ?_) (fun g4 => ?_)
 refine eX (CK.plain _ _) (An (ContractT.wk (c_ref05_SameItems p0.Items p1.Items y1_31 (gdT (aR (aR (aR g1 g2) g3) g4) e1_31)) (fr (fr trivial))) (An rfl ?_))
 replace h := oJ h
 first | subst h | rw [← h]
 exact (An (Eq.symm (aR (aR (aR (aR g1 g2) g3) g4) rfl)) trivial)
 replace h := oJ h
 first | subst h | rw [← h]
 exact (An (Eq.symm (aL (aR (aR (aR g1 g2) g3) g4))) trivial)
 replace h := oJ h
 first | subst h | rw [← h]
 exact (An (Eq.symm (aL (aL (aR (aR g1 g2) g3)))) trivial)
 replace h := oJ h
 first | subst h | rw [← h]
 exact (An (Eq.symm (aL (aL (aL (aR g1 g2))))) trivial)
 replace h := oJ h
 first | subst h | rw [← h]
 exact (An (Eq.symm (aL (aL (aL (aL g1))))) trivial)

theorem c_ref18_Same (p0 : api_Chain) (p1 : api_Chain) (r : Bool) (h : ref18_Same p0 p1 = some r) : Contract Tryz.prog 149 [.agg (enc_api_Chain p0), .agg (enc_api_Chain p1)] [] (.sb r) [] := by
 refine contract_of_vcs tab_ok orders_ok Tryz.func149 Tryz.call149 (by kernel_rfl) 1 rfl rfl _ rfl ?_
 delta ref18_Same at h
 refine eN (eN (eN ?_))
 refine An (fun g1 => ?_) (fun g1 => ?_)
 refine An (fun g2 => ?_) (fun g2 => ?_)
 refine An (fun g3 => ?_) (fun g3 => ?_)
 refine An (fun g4 => ?_) (fun g4 => ?_)
 refine eX [.int .i64 (p0.Links.length : Int)] (An (lenS enc_api_Link p0.Links) ?_)
 refine eX [.int .i64 (p1.Links.length : Int)] (An (lenS enc_api_Link p1.Links) ?_)
 refine An (fun g5 => ?_) (fun g5 => ?_)
 replace h := cT (oR (oR (oR (oR g1 g2) g3) g4) g5) h
 refine eN ?_
 replace h := oJ h
 first | subst h | rw [← h]
 exact (r1 trivial)
 replace h := cF (oR (oR (oR (oR g1 g2) g3) g4) g5) h
 refine eN ?_
 refine eX [.int .i64 (p0.Links.length : Int)] (An (lenS enc_api_Link p0.Links) ?_)
 replace h : ref18_Same_l3 p0 p1 (0:Int) = some r := h
 delta ref18_Same_l3 at h
 obtain ⟨n1, h⟩ := loopS h
 refine eX (Sum.inl ⟨Int × Nat, fun q => [(.tmp 2, .av (.ptr 1 0)), (.tmp 3, .av (.ptr 2 0)), (.tmp 43, .av (.int .i64 (p0.Links.length : Int))), (.tmp 44, .av (.int .i64 q.1)), (.box 1, .box (enc_api_Chain p0)), (.box 2, .box (enc_api_Chain p1))], fun q => loopN (fun (s : Int) => ref18_Same_l3s p0 p1 s) q.2 q.1 = some r, fun q => q.2⟩) (An (eX [] (eX [] (eX ((0:Int), n1) (An h (r7 (fr (r4 (fr trivial)))))))) ?_)
 clear h
 refine fun q h => ?_
 obtain ⟨v3_44, n1⟩ := q
 obtain ⟨m1, x1, hm1, h, hl1, hr1⟩ := loopN_step h
 replace hm1 : n1 = m1 + 1 := hm1
 subst hm1
 replace h : ref18_Same_l3s p0 p1 v3_44 = some x1 := h
 delta ref18_Same_l3s at h
 refine eN ?_
 refine An (fun g6 => ?_) (fun g6 => ?_)
 replace h := cT g6 h
 refine eN (eN ?_)
 obtain ⟨x6_3, e6_3, h⟩ := bS h
 obtain ⟨x6_8, e6_8, h⟩ := bS h
 refine eX [.int .i64 x6_3.I, .int .i64 x6_3.V] (An (idx_map enc_api_Link e6_3) ?_)
 refine eX [.int .i64 x6_8.I, .int .i64 x6_8.V] (An (idx_map enc_api_Link e6_8) ?_)
 refine An (fun g7 => ?_) (fun g7 => ?_)
 replace h := cT g7 h
 refine eN ?_
 replace h := retS h hr1
 first | subst h | rw [← h]
 exact (r1 trivial)
 replace h := cF g7 h
 refine eN ?_
 exact eX [] (eX [] (eX ((w64 (v3_44 + (1:Int))), m1) (An (hl1 (w64 (v3_44 + (1:Int))) (oJ h).symm) (An (Nat.lt_succ_self m1) (r7 (fr (r4 (fr trivial))))))))
 replace h := cF g6 h
 replace h := popS h hr1
 refine eN ?_
 replace h := oJ h
 first | subst h | rw [← h]
 exact (r1 trivial)
 replace h := cT (oL (oR (oR (oR g1 g2) g3) g4)) h
 refine eN ?_
 replace h := oJ h
 first | subst h | rw [← h]
 exact (r1 trivial)
 replace h := cT (oL (oL (oR (oR g1 g2) g3))) h
 refine eN ?_
 replace h := oJ h
 first | subst h | rw [← h]
 exact (r1 trivial)
 replace h := cT (oL (oL (oL (oR g1 g2)))) h
 refine eN ?_
 replace h := oJ h
 first | subst h | rw [← h]
 exact (r1 trivial)
 replace h := cT (oL (oL (oL (oL g1)))) h
 refine eN ?_
 replace h := oJ h
 first | subst h | rw [← h]
 exact (r1 trivial)

end Go.Proofs.YtinffhpeahlhoaaGreat
