/- The contracts: each function of the program does what its function on plain data says. Made by program. -/
import Derived.Test.YtmipeaidieflmaaTab
import Derived.Test.YtmipeaidieflmaaWin
import Derived.Test.YtmipeaidieflmaaVc
import Derived.Test.YtmipeaidieflmaaSrt
set_option linter.unusedVariables false
set_option linter.unusedSimpArgs false
set_option linter.unnecessarySimpa false
set_option maxHeartbeats 4000000
set_option maxRecDepth 20000
namespace Go.Proofs.Ytmipeaidieflmaa
open Go.Vc Go.Dec Go.Win

theorem lE {α : Type} {a b : α} (h : a = b := by first | rfl | (simp only [encZ, List.map_append, List.map_cons, List.map_nil, List.map_take, List.map_drop, List.map_set, List.map_replicate]; done) | (simp only [encZ, List.map_append, List.map_cons, List.map_nil, List.map_take, List.map_drop, List.map_set, List.map_replicate]; rfl) | (simp only [encZ, List.map_append, List.map_cons, List.map_nil, List.map_take, List.map_drop, List.map_set, List.map_replicate, eL, enc_api_Command, enc_tape_Tape, enc_ref27_Cursor, enc_api_Answer, enc_api_Reply]; done) | (simp only [encZ, List.map_append, List.map_cons, List.map_nil, List.map_take, List.map_drop, List.map_set, List.map_replicate, eL, enc_api_Command, enc_tape_Tape, enc_ref27_Cursor, enc_api_Answer, enc_api_Reply]; rfl) | (simp only [map_laid, List.length_map, encZ, List.map_append, List.map_cons, List.map_nil, List.map_take, List.map_drop, List.map_set, List.map_replicate, eL, enc_api_Command, enc_tape_Tape, enc_ref27_Cursor, enc_api_Answer, enc_api_Reply]; first | done | rfl)) : a = b := h
abbrev tM (n : Nat) (v : AV) : Vc.Loc × Cont := (.tmp n, .av v)
abbrev tB (n : Nat) (cs : List AV) : Vc.Loc × Cont := (.box n, .box cs)
abbrev iI (n : Int) : AV := .int .i64 n
abbrev iU (n : Int) : AV := .int .u64 n
abbrev lF (n : Nat) (xs : List (List AV)) : AV := .lst n false xs
theorem cD {α : Type} {b : Bool} {x y r : α} {p q : Prop} (h : cond b x y = r) (A : b = true → x = r → p) (B : b = false → y = r → q) : (b = true → p) ∧ (b = false → q) := ⟨fun g => A g (cT g h), fun g => B g (cF g h)⟩
theorem cN {α : Type} {b : Bool} {x y r : α} {p q : Prop} (h : cond (!b) x y = r) (A : b = true → y = r → p) (B : b = false → x = r → q) : (b = true → p) ∧ (b = false → q) := ⟨fun g => A g (cF (nE g) h), fun g => B g (cT (nE g) h)⟩
theorem cK {p : CK → Prop} {a : AV} {bs : List (List AV)} (h : p (CK.plain a bs)) : Exists p := ⟨_, h⟩
theorem jU {p : List (Nat × Option Nat) → List Nat → Unit → Prop} (h : p [] [] ()) : ∃ a b c, p a b c := ⟨[], [], (), h⟩
theorem jT {α : Type} {p : List (Nat × Option Nat) → List Nat → α → Prop} (c : α) (h : p [] [] c) : ∃ a b c, p a b c := ⟨[], [], c, h⟩
theorem jL (n : Nat) : n < n + 1 := Nat.lt_succ_self n
theorem C0 {f : FuncId} {fn : Func} (hf : Try.prog.funcs[f]? = some fn) (hcall : ∀ (vs : Array Value) (w : World), (callFunc f vs).run Try.prog w = .ok (.enter f vs) w) {args : List AV} {bx : List (List AV)} {tk : TK1} {r : AV} {bx' : List (List AV)} {tk' : TK1} (m : Nat)
    (h : vcs Try.prog tab m (bodyOf fn) vret m (initSt args bx tk) (retK tab m fn.results.toList r bx' tk')) (hst : (hasBody fn && okCode fn.ntmps (bodyOf fn)) = true := by kernel_rfl) (hmm : bx.length + 1 = m := by rfl) (hargs : Nat.ble args.length fn.ntmps = true := by rfl) : ContractT Try.prog f args bx tk r bx' tk' :=
  contract_of_vcs tab_ok orders_ok hf hcall hst m hmm hargs _ rfl h
theorem cW {f : FuncId} {a1 a2 : List AV} {bx bx2 : List (List AV)} {tk tk2 : TK1} {r : AV} {bx' : List (List AV)} {tk' : TK1} (h : ContractT Try.prog f a2 bx2 tk2 r bx' tk') (hw : wkVs (bx2.length + 1) a1 a2 (wkLL (bx2.length + 1) bx bx2 (tkW tk tk2))) : ContractT Try.prog f a1 bx tk r bx' tk' := ContractT.wk h hw

theorem c_tape_Read (p0 : (List Int)) (p1 : Int) (r : (Int × Int × Bool)) (h : tape_Read p0 p1 = some r) : Contract Try.prog 53 [lF 1 (List.map (eI .u8) p0), iI p1] [] (.tup [iI r.1, iI r.2.1, .sb r.2.2]) [] := by
 refine C0 Try.func53 Try.call53 1 ?_
 delta tape_Read at h
 refine eN (eN (eN (An (fun g1 => ?_) (fun g1 => ?_))))
 refine eX [iI (p0.length : Int)] (An (lenS (eI .u8) p0) ?_)
 refine An (fun g2 => ?_) (fun g2 => ?_)
 replace h := cT (oR g1 g2) h
 first | cases h | rw [← oJ h]
 exact eN (r3 trivial)
 replace h := cF (oR g1 g2) h
 refine eN (eN ?_)
 replace h : tape_Read_l3 p0 p1 (0:Int) (0:Int) = some r := h
 delta tape_Read_l3 at h
 obtain ⟨n1, h⟩ := loopS h
 refine eX (Sum.inl ⟨(Int × Int) × Nat, fun q => [tM 0 (lF 1 (List.map (eI .u8) p0)), tM 1 (iI p1), tM 7 (iU q.1.1), tM 8 (iI q.1.2)], fun q => loopN (fun (s : (Int × Int)) => tape_Read_l3s p0 p1 s.1 s.2) q.2 q.1 = some r, fun q => q.2⟩) (An (eX [] (eX [] (eX (((0:Int), (0:Int)), n1) (An h (r1 (fr (r3 trivial))))))) ?_)
 clear h
 refine fun q h => ?_
 obtain ⟨⟨c, a⟩, n1⟩ := q
 obtain ⟨m1, x1, hm1, h, hl1, hr1⟩ := loopN_step h
 replace hm1 : n1 = m1 + 1 := hm1
 subst hm1
 replace h : tape_Read_l3s p0 p1 c a = some x1 := h
 delta tape_Read_l3s at h
 refine eN (eX (some (⟨Unit, fun _ => [tM 0 (lF 1 (List.map (eI .u8) p0)), tM 1 (iI p1), tM 7 (iU c), tM 8 (iI a), tM 28 (.sb ((decide (a < (10:Int))) && (decide ((w64 (p1 + a)) < (p0.length : Int)))))], fun _ => True, fun _ => 0⟩, 1000000)) (An ?_ (fun _ _ => ?_)))
 refine An (fun g3 => ?_) (fun g3 => ?_)
 refine eX [iI (p0.length : Int)] (An (lenS (eI .u8) p0) ?_)
 exact jU (An trivial (r1 (fr (r3 (An (Eq.symm (aR g3 rfl)) trivial)))))
 exact jU (An trivial (r1 (fr (r3 (An (Eq.symm (aL g3)) trivial)))))
 refine cD h (fun g4 h => ?_) (fun g4 h => ?_)
 refine eN ?_
 obtain ⟨b, e, h⟩ := bS h
 refine eX [.int .u8 b] (An (idx_map (eI .u8) e) ?_)
 refine eN (eX (some (⟨Unit, fun _ => [tM 0 (lF 1 (List.map (eI .u8) p0)), tM 1 (iI p1), tM 7 (iU c), tM 8 (iI a), tM 9 (.int .u8 b), tM 42 (.sb ((a == (9:Int)) && (decide (b > (1:Int)))))], fun _ => True, fun _ => 0⟩, 2000000)) (An ?_ (fun _ _ => ?_)))
 refine An (fun g5 => ?_) (fun g5 => ?_)
 exact jU (An trivial (r1 (fr (r4 (An (Eq.symm (aR g5 rfl)) trivial)))))
 exact jU (An trivial (r1 (fr (r4 (An (Eq.symm (aL g5)) trivial)))))
 refine cD h (fun g6 h => ?_) (fun g6 h => ?_)
 cases retS h hr1
 exact eN (r3 trivial)
 refine eN ?_
 obtain ⟨d, h⟩ := ckS h
 refine An (oD d) ?_
 refine eN (cD h (fun g7 h => ?_) (fun g7 h => ?_))
 exact eN (jT (_, m1) (An (hl1 _ (oJ h).symm) (An (jL m1) (r1 (fr (r3 trivial))))))
 refine eN (eX (some (⟨Unit, fun _ => [tM 1 (iI p1), tM 7 (iU (ior .u64 c (ishl .u64 (wu64 (iand .u8 b (127:Int))) (wu64 (w64 ((7:Int) * a)))))), tM 8 (iI a), tM 59 (.sb ((b == (0:Int)) && (decide (a > (0:Int)))))], fun _ => True, fun _ => 0⟩, 3000000)) (An ?_ (fun _ _ => ?_)))
 refine An (fun g8 => ?_) (fun g8 => ?_)
 exact jU (An trivial (r4 (An (Eq.symm (aR g8 rfl)) trivial)))
 exact jU (An trivial (r4 (An (Eq.symm (aL g8)) trivial)))
 refine cD h (fun g9 h => ?_) (fun g9 h => ?_)
 cases retS h hr1
 exact eN (r3 trivial)
 refine eN (An (by decide) ?_)
 refine eN (eN (cD h (fun g10 h => ?_) (fun g10 h => ?_)))
 cases retS h hr1
 exact eN (eN (r3 trivial))
 cases retS h hr1
 exact eN (r3 trivial)
 replace h := popS h hr1
 first | cases h | rw [← oJ h]
 exact eN (r3 trivial)
 replace h := cT (oL g1) h
 first | cases h | rw [← oJ h]
 exact eN (r3 trivial)

theorem c_codec_written' (p0 : tape_Tape) (r : ((List Int) × Int)) (h : codec_written p0 = r) : Contract Try.prog 49 [.ptr 0 0] [(enc_tape_Tape p0)] (.tup [lF 1 (List.map (eI .u8) r.1), iI r.2]) [(enc_tape_Tape p0)] := by
 refine C0 Try.func49 Try.call49 2 ?_
 delta codec_written at h
 refine eN (eN (eX [iI (p0.Bytes.length : Int)] (An (lenS (eI .u8) p0.Bytes) ?_)))
 refine cD h (fun g1 h => ?_) (fun g1 h => ?_)
 cases h
 exact eN (r2 (fr (r3 trivial)))
 cases h
 exact eN (fr (r1 (fr (r3 trivial))))

theorem c_tape_Append_i2 (p1 : Int) (r : (List Int)) (h : tape_Append_i2 p1 = some r) : ContractT Try.prog 73 [.nilS, iI p1] [] none (.own 0) [] (some (5, 1, List.map (eI .u8) r)) := by
 refine C0 Try.func73 Try.call73 1 ?_
 delta tape_Append_i2 at h
 refine eN (eN (An (by decide) ?_))
 refine eN (eX (some (⟨Int, fun a => [tM 0 (.nilS), tM 5 (iU a)], fun a => tape_Append_i2_j1 a = some r, fun _ => 0⟩, 1000000)) (An ?_ ?_))
 refine cD h (fun g1 h => ?_) (fun g1 h => ?_)
 exact eN (jT (inot .u64 (ishl .u64 (wu64 p1) (1:Int))) (An h (r2 trivial)))
 exact jT (ishl .u64 (wu64 p1) (1:Int)) (An h (r2 trivial))
 clear h
 refine fun a h => ?_
 replace h : tape_Append_i2_j1 a = some r := h
 delta tape_Append_i2_j1 at h
 replace h : tape_Append_i2_l3 ([] : List Int) a = some r := h
 delta tape_Append_i2_l3 at h
 obtain ⟨n1, h⟩ := loopS h
 refine eX (Sum.inl ⟨((List Int) × Int) × Nat, fun q => [tM 0 (.own 999999), tM 5 (iU q.1.2), (.tok 999999, .tok 5 1 (List.map (eI .u8) q.1.1))], fun q => loopN (fun (s : ((List Int) × Int)) => tape_Append_i2_l3s s.1 s.2) q.2 q.1 = some r, fun q => q.2⟩) (An (eX [(999999, none)] (eX [] (eX ((([] : List Int), a), n1) (An h (r3 trivial))))) ?_)
 clear h
 refine fun q h => ?_
 obtain ⟨⟨c, b⟩, n1⟩ := q
 obtain ⟨m1, x1, hm1, h, hl1, hr1⟩ := loopN_step h
 replace hm1 : n1 = m1 + 1 := hm1
 subst hm1
 replace h : tape_Append_i2_l3s c b = some x1 := h
 delta tape_Append_i2_l3s at h
 refine eN (cD h (fun g2 h => ?_) (fun g2 h => ?_))
 refine eN ?_
 obtain ⟨d, h⟩ := ckS h
 refine An (kA (oD d)) ?_
 refine eN (An (by decide) ?_)
 exact eX [(999999, some 1000261)] (eX [] (eX (((c ++ [(ior .u8 (IntKind.u8.wrap b) (128:Int))]), (ishr .u64 b (7:Int))), m1) (An (hl1 ((c ++ [(ior .u8 (IntKind.u8.wrap b) (128:Int))]), (ishr .u64 b (7:Int))) (oJ h).symm) (An (Nat.lt_succ_self m1) (r2 (An lE trivial))))))
 replace h := popS h hr1
 refine eN ?_
 obtain ⟨e, h⟩ := ckS h
 refine An (kA (oD e)) ?_
 first | cases h | rw [← oJ h]
 exact lE

theorem c_tape_Tape_Int_i2 (b0_1 : Int) (b1 : Int) (r : (List Int)) (h : tape_Tape_Int_i2 b0_1 b1 = some r) : ContractT Try.prog 69 [.ptr 0 0, .ptr 1 0] [[.nilS, iI b0_1, .sb false, .sb false], [iI b1]] none (.tup []) [[.own 0, iI b0_1, .sb false, .sb false], [iI b1]] (some (5, 1, List.map (eI .u8) r)) := by
 refine C0 Try.func69 Try.call69 3 ?_
 delta tape_Tape_Int_i2 at h
 refine eN (An (fun _ => ?_) (fun g => absurd g (by decide)))
 refine eN ?_
 obtain ⟨a, b, h⟩ := bS h
 refine eX (CK.gen [] none _ _ _) (An (ContractT.wk (c_tape_Append_i2 b1 a b) (r1 trivial)) (An rfl (An rfl ?_)))
 first | cases h | rw [← oJ h]
 exact (r4 rfl)

theorem c_tape_Tape_Small_i2 (b0_1 : Int) (b1 : Int) (r : (List Int)) (h : tape_Tape_Small_i2 b0_1 b1 = some r) : ContractT Try.prog 68 [.ptr 0 0, .ptr 1 0] [[.nilS, iI b0_1, .sb false, .sb false], [iI b1]] none (.tup []) [[.own 0, iI b0_1, .sb false, .sb false], [iI b1]] (some (5, 1, List.map (eI .u8) r)) := by
 refine C0 Try.func68 Try.call68 3 ?_
 delta tape_Tape_Small_i2 at h
 refine eN (eN ?_)
 obtain ⟨a, b, h⟩ := bS h
 refine eX (CK.gen [(0, 0, 4), (6, 0, 1)] none _ _ _) (An (ContractT.wk (c_tape_Tape_Int_i2 b0_1 b1 a b) (r4 trivial)) (An rfl (An rfl ?_)))
 first | cases h | rw [← oJ h]
 exact eN (r4 rfl)

theorem c_tape_Append_i3 (p0 : (List Int)) (p1 : Int) (r : (List Int)) (h : tape_Append_i3 p0 p1 = some r) : ContractT Try.prog 73 [.own 0, iI p1] [] (some (5, 1, List.map (eI .u8) p0)) (.own 0) [] (some (5, 1, List.map (eI .u8) r)) := by
 refine C0 Try.func73 Try.call73 1 ?_
 delta tape_Append_i3 at h
 refine eN (eN (An (by decide) ?_))
 refine eN (eX (some (⟨Int, fun a => [tM 0 (.own 0), tM 5 (iU a), (.tok 0, .tok 5 1 (List.map (eI .u8) p0))], fun a => tape_Append_i3_j1 p0 a = some r, fun _ => 0⟩, 1000000)) (An ?_ ?_))
 refine cD h (fun g1 h => ?_) (fun g1 h => ?_)
 exact eN (jT (inot .u64 (ishl .u64 (wu64 p1) (1:Int))) (An h (r3 trivial)))
 exact jT (ishl .u64 (wu64 p1) (1:Int)) (An h (r3 trivial))
 clear h
 refine fun a h => ?_
 replace h : tape_Append_i3_j1 p0 a = some r := h
 delta tape_Append_i3_j1 at h
 replace h : tape_Append_i3_l3 p0 a = some r := h
 delta tape_Append_i3_l3 at h
 obtain ⟨n1, h⟩ := loopS h
 refine eX (Sum.inl ⟨((List Int) × Int) × Nat, fun q => [tM 0 (.own 999999), tM 5 (iU q.1.2), (.tok 999999, .tok 5 1 (List.map (eI .u8) q.1.1))], fun q => loopN (fun (s : ((List Int) × Int)) => tape_Append_i3_l3s s.1 s.2) q.2 q.1 = some r, fun q => q.2⟩) (An (eX [(999999, some 0)] (eX [] (eX ((p0, a), n1) (An h (r3 trivial))))) ?_)
 clear h
 refine fun q h => ?_
 obtain ⟨⟨c, b⟩, n1⟩ := q
 obtain ⟨m1, x1, hm1, h, hl1, hr1⟩ := loopN_step h
 replace hm1 : n1 = m1 + 1 := hm1
 subst hm1
 replace h : tape_Append_i3_l3s c b = some x1 := h
 delta tape_Append_i3_l3s at h
 refine eN (cD h (fun g2 h => ?_) (fun g2 h => ?_))
 refine eN ?_
 obtain ⟨d, h⟩ := ckS h
 refine An (kA (oD d)) ?_
 refine eN (An (by decide) ?_)
 exact eX [(999999, some 1000261)] (eX [] (eX (((c ++ [(ior .u8 (IntKind.u8.wrap b) (128:Int))]), (ishr .u64 b (7:Int))), m1) (An (hl1 ((c ++ [(ior .u8 (IntKind.u8.wrap b) (128:Int))]), (ishr .u64 b (7:Int))) (oJ h).symm) (An (Nat.lt_succ_self m1) (r2 (An lE trivial))))))
 replace h := popS h hr1
 refine eN ?_
 obtain ⟨e, h⟩ := ckS h
 refine An (kA (oD e)) ?_
 first | cases h | rw [← oJ h]
 exact lE

theorem c_tape_Tape_Int_i3 (b0_0 : (List Int)) (b0_1 : Int) (b1 : Int) (r : (List Int)) (h : tape_Tape_Int_i3 b0_0 b0_1 b1 = some r) : ContractT Try.prog 69 [.ptr 0 0, .ptr 1 0] [[.own 0, iI b0_1, .sb false, .sb false], [iI b1]] (some (5, 1, List.map (eI .u8) b0_0)) (.tup []) [[.own 0, iI b0_1, .sb false, .sb false], [iI b1]] (some (5, 1, List.map (eI .u8) r)) := by
 refine C0 Try.func69 Try.call69 3 ?_
 delta tape_Tape_Int_i3 at h
 refine eX (some ([(3, some 0)], [], [tM 0 (.ptr 0 0), tM 1 (.ptr 1 0), tB 0 [.own 3, iI b0_1, .bool false, .bool false], tB 1 [iI b1], (.tok 3, .tok 5 1 (List.map (eI .u8) b0_0))], 1000000)) (An (r6 trivial) ?_)
 refine eN ?_
 obtain ⟨a, b, h⟩ := bS h
 refine eX (CK.gen [] (some 3) _ _ _) (An (ContractT.wk (c_tape_Append_i3 b0_0 b1 a b) (r1 rfl)) (An rfl (An rfl ?_)))
 first | cases h | rw [← oJ h]
 exact (r4 rfl)

theorem c_tape_Tape_Small_i3 (b0_0 : (List Int)) (b0_1 : Int) (b1 : Int) (r : (List Int)) (h : tape_Tape_Small_i3 b0_0 b0_1 b1 = some r) : ContractT Try.prog 68 [.ptr 0 0, .ptr 1 0] [[.own 0, iI b0_1, .sb false, .sb false], [iI b1]] (some (5, 1, List.map (eI .u8) b0_0)) (.tup []) [[.own 0, iI b0_1, .sb false, .sb false], [iI b1]] (some (5, 1, List.map (eI .u8) r)) := by
 refine C0 Try.func68 Try.call68 3 ?_
 delta tape_Tape_Small_i3 at h
 refine eX (some ([(3, some 0)], [], [tM 0 (.ptr 0 0), tM 1 (.ptr 1 0), tB 0 [.own 3, iI b0_1, .bool false, .bool false], tB 1 [iI b1], (.tok 3, .tok 5 1 (List.map (eI .u8) b0_0))], 1000000)) (An (r6 trivial) ?_)
 refine eN ?_
 obtain ⟨a, b, h⟩ := bS h
 refine eX (CK.gen [(0, 0, 4), (1000003, 0, 1)] (some 3) _ _ _) (An (ContractT.wk (c_tape_Tape_Int_i3 b0_0 b0_1 b1 a b) (r4 rfl)) (An rfl (An rfl ?_)))
 first | cases h | rw [← oJ h]
 exact eN (r4 rfl)

theorem c_tape_Tape_Config_i1 (b0_0 : (List Int)) (b0_1 : Int) (b1 : api_Config) (r : (List Int)) (h : tape_Tape_Config_i1 b0_0 b0_1 b1 = some r) : ContractT Try.prog 70 [.ptr 0 0, .ptr 1 0] [[.own 0, iI b0_1, .sb false, .sb false], (enc_api_Config b1)] (some (5, 1, List.map (eI .u8) b0_0)) (.tup []) [[.own 0, iI b0_1, .sb false, .sb false], (enc_api_Config b1)] (some (5, 1, List.map (eI .u8) r)) := by
 refine C0 Try.func70 Try.call70 3 ?_
 delta tape_Tape_Config_i1 at h
 refine eX (some ([(3, some 0)], [], [tM 0 (.ptr 0 0), tM 1 (.ptr 1 0), tB 0 [.own 3, iI b0_1, .bool false, .bool false], tB 1 (enc_api_Config b1), (.tok 3, .tok 5 1 (List.map (eI .u8) b0_0))], 1000000)) (An (r12 (r1 trivial)) ?_)
 obtain ⟨a, i, h⟩ := bS h
 refine eX (CK.gen [(0, 0, 4), (1, 0, 1)] (some 3) _ _ _) (An (ContractT.wk (c_tape_Tape_Small_i3 b0_0 b0_1 b1.Kind a i) (r4 rfl)) (An rfl (An rfl ?_)))
 refine eN ?_
 obtain ⟨b, j, h⟩ := bS h
 refine eX (CK.gen [(0, 0, 4), (1, 1, 1)] (some 1000004) _ _ _) (An (ContractT.wk (c_tape_Tape_Small_i3 a b0_1 b1.Agg b j) (r4 rfl)) (An rfl (An rfl ?_)))
 refine eN ?_
 obtain ⟨c, k, h⟩ := bS h
 refine eX (CK.gen [(0, 0, 4), (1, 2, 1)] (some 1000260) _ _ _) (An (ContractT.wk (c_tape_Tape_Int_i3 b b0_1 b1.W c k) (r4 rfl)) (An rfl (An rfl ?_)))
 refine eN ?_
 obtain ⟨d, l, h⟩ := bS h
 refine eX (CK.gen [(0, 0, 4), (1, 3, 1)] (some 1000516) _ _ _) (An (ContractT.wk (c_tape_Tape_Small_i3 c b0_1 b1.K d l) (r4 rfl)) (An rfl (An rfl ?_)))
 refine eN ?_
 obtain ⟨e, m, h⟩ := bS h
 refine eX (CK.gen [(0, 0, 4), (1, 4, 1)] (some 1000772) _ _ _) (An (ContractT.wk (c_tape_Tape_Small_i3 d b0_1 b1.Cap e m) (r4 rfl)) (An rfl (An rfl ?_)))
 refine eN ?_
 obtain ⟨f, n, h⟩ := bS h
 refine eX (CK.gen [(0, 0, 4), (1, 5, 1)] (some 1001028) _ _ _) (An (ContractT.wk (c_tape_Tape_Small_i3 e b0_1 b1.P f n) (r4 rfl)) (An rfl (An rfl ?_)))
 refine eN ?_
 obtain ⟨g, o, h⟩ := bS h
 refine eX (CK.gen [(0, 0, 4), (1, 6, 1)] (some 1001284) _ _ _) (An (ContractT.wk (c_tape_Tape_Small_i3 f b0_1 b1.Chains g o) (r4 rfl)) (An rfl (An rfl ?_)))
 refine eN ?_
 obtain ⟨p, q, h⟩ := bS h
 refine eX (CK.gen [(0, 0, 4), (1, 7, 1)] (some 1001540) _ _ _) (An (ContractT.wk (c_tape_Tape_Int_i3 g b0_1 b1.Max p q) (r4 rfl)) (An rfl (An rfl ?_)))
 first | cases h | rw [← oJ h]
 exact (r8 (r3 rfl))

theorem c_tape_Tape_Within_i2 (p2 : Int) (p3 : Int) (b0_0 : (List Int)) (b0_1 : Int) (b1 : Int) (r : (List Int)) (h : tape_Tape_Within_i2 p2 p3 b0_0 b0_1 b1 = some r) : ContractT Try.prog 83 [.ptr 0 0, .ptr 1 0, iI p2, iI p3] [[.own 0, iI b0_1, .sb false, .sb false], [iI b1]] (some (5, 1, List.map (eI .u8) b0_0)) (.tup []) [[.own 0, iI b0_1, .sb false, .sb false], [iI b1]] (some (5, 1, List.map (eI .u8) r)) := by
 refine C0 Try.func83 Try.call83 3 ?_
 delta tape_Tape_Within_i2 at h
 refine eX (some ([(3, some 0)], [], [tM 0 (.ptr 0 0), tM 1 (.ptr 1 0), tM 2 (iI p2), tM 3 (iI p3), tB 0 [.own 3, iI b0_1, .bool false, .bool false], tB 1 [iI b1], (.tok 3, .tok 5 1 (List.map (eI .u8) b0_0))], 1000000)) (An (r8 trivial) ?_)
 obtain ⟨a, b, h⟩ := bS h
 refine eX (CK.gen [(0, 0, 4), (1, 0, 1)] (some 3) _ _ _) (An (ContractT.wk (c_tape_Tape_Int_i3 b0_0 b0_1 b1 a b) (r4 rfl)) (An rfl (An rfl ?_)))
 refine eN (eN (An (fun g => absurd g (by decide)) (fun _ => ?_)))
 first | cases h | rw [← oJ h]
 exact eN (r4 rfl)

theorem c_tape_List_int64__i3 (b0_0 : (List Int)) (b0_1 : Int) (b1 : (List Int)) (r : (List Int)) (h : tape_List_int64__i3 b0_0 b0_1 b1 = some r) : ContractT Try.prog 80 [.ptr 0 0, .ptr 1 0, .clo 69 [.ptr 0 0] []] [[.own 0, iI b0_1, .sb false, .sb false], [lF 1 (List.map (eI .i64) b1)]] (some (5, 1, List.map (eI .u8) b0_0)) (.tup []) [[.own 0, iI b0_1, .sb false, .sb false], [lF 1 (List.map (eI .i64) b1)]] (some (5, 1, List.map (eI .u8) r)) := by
 refine C0 Try.func80 Try.call80 3 ?_
 delta tape_List_int64__i3 at h
 refine eX (some ([(3, some 0)], [], [tM 0 (.ptr 0 0), tM 1 (.ptr 1 0), tM 2 (.clo 69 [.ptr 0 0] []), tB 0 [.own 3, iI b0_1, .bool false, .bool false], tB 1 [lF 1 (List.map (eI .i64) b1)], (.tok 3, .tok 5 1 (List.map (eI .u8) b0_0))], 1000000)) (An (r4 (fr (r1 trivial))) ?_)
 refine eX [iI (b1.length : Int)] (An (lenS (eI .i64) b1) ?_)
 refine eN ?_
 obtain ⟨b, f, h⟩ := bS h
 refine eX [iI (b0_0.length : Int)] (An (lenS (eI .u8) b0_0) ?_)
 refine eX (CK.gen [(0, 0, 4), (1000004, 0, 1)] (some 3) _ _ _) (An (ContractT.wk (c_tape_Tape_Within_i2 (0:Int) (w64 ((b0_0.length : Int) - b0_1)) b0_0 b0_1 (b1.length : Int) b f) (r6 rfl)) (An rfl (An rfl ?_)))
 refine eN (An (fun _ => ?_) (fun g => absurd g (by decide)))
 refine eN (eX [iI (b1.length : Int)] (An (lenS (eI .i64) b1) ?_))
 replace h : tape_List_int64__i3_l3 b0_1 b1 (0:Int) b = some r := h
 delta tape_List_int64__i3_l3 at h
 obtain ⟨n1, h⟩ := loopS h
 refine eX (Sum.inl ⟨(Int × (List Int)) × Nat, fun q => [tM 1 (.ptr 1 0), tM 2 (.clo 69 [.ptr 0 0] []), tM 34 (iI (b1.length : Int)), tM 35 (iI q.1.1), tB 0 [.own 1000267, iI b0_1, .bool false, .bool false], tB 1 [lF 1 (List.map (eI .i64) b1)], (.tok 1000267, .tok 5 1 (List.map (eI .u8) q.1.2))], fun q => loopN (fun (s : (Int × (List Int))) => tape_List_int64__i3_l3s b0_1 b1 s.1 s.2) q.2 q.1 = some r, fun q => q.2⟩) (An (eX [] (eX [] (eX (((0:Int), b), n1) (An h (r6 (fr (r1 trivial))))))) ?_)
 clear h
 refine fun q h => ?_
 obtain ⟨⟨c, a⟩, n1⟩ := q
 obtain ⟨m1, x1, hm1, h, hl1, hr1⟩ := loopN_step h
 replace hm1 : n1 = m1 + 1 := hm1
 subst hm1
 replace h : tape_List_int64__i3_l3s b0_1 b1 c a = some x1 := h
 delta tape_List_int64__i3_l3s at h
 refine eN (cD h (fun g1 h => ?_) (fun g1 h => ?_))
 refine eN (eN ?_)
 obtain ⟨e, i, h⟩ := bS h
 refine eX [iI e] (An (idx_map (eI .i64) i) ?_)
 refine eN ?_
 obtain ⟨d, j, h⟩ := bS h
 refine eX (CK.gen [(0, 0, 4), (1001542, 0, 1)] (some 1000267) _ _ _) (An (ContractT.wk (c_tape_Tape_Int_i3 a b0_1 e d j) (r4 rfl)) (An rfl (An rfl ?_)))
 exact eN (eX [(1000267, some 1001793)] (eX [] (eX (((w64 (c + (1:Int))), d), m1) (An (hl1 ((w64 (c + (1:Int))), d) (oJ h).symm) (An (Nat.lt_succ_self m1) (r6 (fr (r1 trivial))))))))
 replace h := popS h hr1
 first | cases h | rw [← oJ h]
 exact (r3 (fr rfl))

theorem c_tape_Tape_Ints_i1 (b0_0 : (List Int)) (b0_1 : Int) (b1 : (List Int)) (r : (List Int)) (h : tape_Tape_Ints_i1 b0_0 b0_1 b1 = some r) : ContractT Try.prog 71 [.ptr 0 0, .ptr 1 0] [[.own 0, iI b0_1, .sb false, .sb false], [lF 1 (List.map (eI .i64) b1)]] (some (5, 1, List.map (eI .u8) b0_0)) (.tup []) [[.own 0, iI b0_1, .sb false, .sb false], [lF 1 (List.map (eI .i64) b1)]] (some (5, 1, List.map (eI .u8) r)) := by
 refine C0 Try.func71 Try.call71 3 ?_
 delta tape_Tape_Ints_i1 at h
 refine eX (some ([(3, some 0)], [], [tM 0 (.ptr 0 0), tM 1 (.ptr 1 0), tB 0 [.own 3, iI b0_1, .bool false, .bool false], tB 1 [lF 1 (List.map (eI .i64) b1)], (.tok 3, .tok 5 1 (List.map (eI .u8) b0_0))], 1000000)) (An (r4 (fr (r1 trivial))) ?_)
 obtain ⟨a, b, h⟩ := bS h
 refine eX (CK.gen [(0, 0, 4), (1, 0, 1)] (some 3) _ _ _) (An (ContractT.wk (c_tape_List_int64__i3 b0_0 b0_1 b1 a b) (r3 (fr rfl))) (An rfl (An rfl ?_)))
 first | cases h | rw [← oJ h]
 exact (r3 (fr rfl))

theorem c_tape_Tape_Text_1_i1 (b0 : Int) (b2_0 : (List Int)) (b2_1 : Int) (r : (Int × (List Int))) (h : tape_Tape_Text_1_i1 b0 b2_0 b2_1 = some r) : ContractT Try.prog 82 [.ptr 0 0, .ptr 1 0] [[.int .u8 b0], [.ptr 2 0], [.own 0, iI b2_1, .sb false, .sb false]] (some (5, 1, List.map (eI .u8) b2_0)) (.tup []) [[.int .u8 r.1], [.ptr 2 0], [.own 0, iI b2_1, .sb false, .sb false]] (some (5, 1, List.map (eI .u8) r.2)) := by
 refine C0 Try.func82 Try.call82 4 ?_
 delta tape_Tape_Text_1_i1 at h
 refine eX (some ([(4, some 0)], [], [tM 0 (.ptr 0 0), tM 1 (.ptr 1 0), tB 0 [.int .u8 b0], tB 1 [.ptr 2 0], tB 2 [.own 4, iI b2_1, .bool false, .bool false], (.tok 4, .tok 5 1 (List.map (eI .u8) b2_0))], 1000000)) (An (r6 trivial) ?_)
 refine eN ?_
 obtain ⟨a, b, h⟩ := bS h
 refine eX (CK.gen [(2, 0, 4), (1000004, 0, 1)] (some 4) _ _ _) (An (ContractT.wk (c_tape_Tape_Within_i2 (0:Int) (255:Int) b2_0 b2_1 (w64 b0) a b) (r6 rfl)) (An rfl (An rfl ?_)))
 first | cases h | rw [← oJ h]
 exact eN (r4 rfl)

theorem c_tape_List_byte__i3 (b0_0 : (List Int)) (b0_1 : Int) (b1 : (List Int)) (r : (List Int)) (h : tape_List_byte__i3 b0_0 b0_1 b1 = some r) : ContractT Try.prog 81 [.ptr 0 0, .ptr 1 0, .clo 82 [] [.ptr 2 0]] [[.own 0, iI b0_1, .sb false, .sb false], [lF 1 (List.map (eI .u8) b1)], [.ptr 0 0]] (some (5, 1, List.map (eI .u8) b0_0)) (.tup []) [[.own 0, iI b0_1, .sb false, .sb false], [lF 1 (List.map (eI .u8) b1)], [.ptr 0 0]] (some (5, 1, List.map (eI .u8) r)) := by
 refine C0 Try.func81 Try.call81 4 ?_
 delta tape_List_byte__i3 at h
 refine eX (some ([(4, some 0)], [], [tM 0 (.ptr 0 0), tM 1 (.ptr 1 0), tM 2 (.clo 82 [] [.ptr 2 0]), tB 0 [.own 4, iI b0_1, .bool false, .bool false], tB 1 [lF 1 (List.map (eI .u8) b1)], tB 2 [.ptr 0 0], (.tok 4, .tok 5 1 (List.map (eI .u8) b0_0))], 1000000)) (An (r4 (fr (r1 trivial))) ?_)
 refine eX [iI (b1.length : Int)] (An (lenS (eI .u8) b1) ?_)
 refine eN ?_
 obtain ⟨b, f, h⟩ := bS h
 refine eX [iI (b0_0.length : Int)] (An (lenS (eI .u8) b0_0) ?_)
 refine eX (CK.gen [(0, 0, 4), (1000004, 0, 1)] (some 4) _ _ _) (An (ContractT.wk (c_tape_Tape_Within_i2 (0:Int) (w64 ((b0_0.length : Int) - b0_1)) b0_0 b0_1 (b1.length : Int) b f) (r6 rfl)) (An rfl (An rfl ?_)))
 refine eN (An (fun _ => ?_) (fun g => absurd g (by decide)))
 refine eN (eX [iI (b1.length : Int)] (An (lenS (eI .u8) b1) ?_))
 replace h : tape_List_byte__i3_l3 b0_1 b1 (0:Int) b = some r := h
 delta tape_List_byte__i3_l3 at h
 obtain ⟨n1, h⟩ := loopS h
 refine eX (Sum.inl ⟨(Int × (List Int)) × Nat, fun q => [tM 1 (.ptr 1 0), tM 2 (.clo 82 [] [.ptr 2 0]), tM 34 (iI (b1.length : Int)), tM 35 (iI q.1.1), tB 0 [.own 1000267, iI b0_1, .bool false, .bool false], tB 1 [lF 1 (List.map (eI .u8) b1)], tB 2 [.ptr 0 0], (.tok 1000267, .tok 5 1 (List.map (eI .u8) q.1.2))], fun q => loopN (fun (s : (Int × (List Int))) => tape_List_byte__i3_l3s b0_1 b1 s.1 s.2) q.2 q.1 = some r, fun q => q.2⟩) (An (eX [] (eX [] (eX (((0:Int), b), n1) (An h (r6 (fr (r1 trivial))))))) ?_)
 clear h
 refine fun q h => ?_
 obtain ⟨⟨c, a⟩, n1⟩ := q
 obtain ⟨m1, x1, hm1, h, hl1, hr1⟩ := loopN_step h
 replace hm1 : n1 = m1 + 1 := hm1
 subst hm1
 replace h : tape_List_byte__i3_l3s b0_1 b1 c a = some x1 := h
 delta tape_List_byte__i3_l3s at h
 refine eN (cD h (fun g1 h => ?_) (fun g1 h => ?_))
 refine eN (eN ?_)
 obtain ⟨e, i, h⟩ := bS h
 refine eX [.int .u8 e] (An (idx_map (eI .u8) i) ?_)
 refine eN ?_
 obtain ⟨d, j, h⟩ := bS h
 refine eX (CK.gen [(1001542, 0, 1), (2, 0, 1), (0, 0, 4)] (some 1000267) _ _ _) (An (ContractT.wk (c_tape_Tape_Text_1_i1 e a b0_1 d j) (r4 rfl)) (An rfl (An rfl ?_)))
 exact eN (eX [(1000267, some 1001793)] (eX [] (eX (((w64 (c + (1:Int))), d.2), m1) (An (hl1 ((w64 (c + (1:Int))), d.2) (oJ h).symm) (An (Nat.lt_succ_self m1) (r6 (fr (r1 trivial))))))))
 replace h := popS h hr1
 first | cases h | rw [← oJ h]
 exact (r3 (fr rfl))

theorem c_tape_Tape_Text_i1 (b0_0 : (List Int)) (b0_1 : Int) (b1 : (List Int)) (r : (List Int)) (h : tape_Tape_Text_i1 b0_0 b0_1 b1 = some r) : ContractT Try.prog 72 [.ptr 0 0, .ptr 1 0] [[.own 0, iI b0_1, .sb false, .sb false], [lF 1 (List.map (eI .u8) b1)]] (some (5, 1, List.map (eI .u8) b0_0)) (.tup []) [[.own 0, iI b0_1, .sb false, .sb false], [lF 1 (List.map (eI .u8) b1)]] (some (5, 1, List.map (eI .u8) r)) := by
 refine C0 Try.func72 Try.call72 3 ?_
 delta tape_Tape_Text_i1 at h
 refine eX (some ([(3, some 0)], [], [tM 0 (.ptr 0 0), tM 1 (.ptr 1 0), tB 0 [.own 3, iI b0_1, .bool false, .bool false], tB 1 [lF 1 (List.map (eI .u8) b1)], (.tok 3, .tok 5 1 (List.map (eI .u8) b0_0))], 1000000)) (An (r4 (fr (r1 trivial))) ?_)
 refine eN ?_
 obtain ⟨a, b, h⟩ := bS h
 refine eX (CK.gen [(0, 0, 4), (1, 0, 1), (1000000, 0, 1)] (some 3) _ _ _) (An (ContractT.wk (c_tape_List_byte__i3 b0_0 b0_1 b1 a b) (r3 (fr rfl))) (An rfl (An rfl ?_)))
 first | cases h | rw [← oJ h]
 exact (r3 (fr rfl))

theorem c_codec_command_i1 (b0_1 : Int) (b1 : api_Command) (r : (List Int)) (h : codec_command_i1 b0_1 b1 = some r) : ContractT Try.prog 48 [.ptr 0 0, .ptr 1 0] [[.nilS, iI b0_1, .sb false, .sb false], (iI b1.Op :: (iI b1.ID :: (List.append (enc_api_Config b1.Config) (iI b1.T :: (iI b1.V :: (lF 1 (List.map (eI .i64) b1.Draws) :: (iI b1.Query.Op :: (iI b1.Query.A :: (iI b1.Query.B :: (lF 1 (List.map (eI .u8) b1.Bytes) :: []))))))))))] none (.tup []) [[.own 0, iI b0_1, .sb false, .sb false], (iI b1.Op :: (iI b1.ID :: (List.append (enc_api_Config b1.Config) (iI b1.T :: (iI b1.V :: (lF 1 (List.map (eI .i64) b1.Draws) :: (iI b1.Query.Op :: (iI b1.Query.A :: (iI b1.Query.B :: (lF 1 (List.map (eI .u8) b1.Bytes) :: []))))))))))] (some (5, 1, List.map (eI .u8) r)) := by
 refine C0 Try.func48 Try.call48 3 ?_
 delta codec_command_i1 at h
 refine eN ?_
 obtain ⟨a, k, h⟩ := bS h
 refine eX (CK.gen [(0, 0, 4), (1, 0, 1)] none _ _ _) (An (ContractT.wk (c_tape_Tape_Small_i2 b0_1 b1.Op a k) (r4 trivial)) (An rfl (An rfl ?_)))
 refine eN ?_
 obtain ⟨b, l, h⟩ := bS h
 refine eX (CK.gen [(0, 0, 4), (1, 1, 1)] (some 7) _ _ _) (An (ContractT.wk (c_tape_Tape_Int_i3 a b0_1 b1.ID b l) (r4 rfl)) (An rfl (An rfl ?_)))
 refine eN ?_
 obtain ⟨c, m, h⟩ := bS h
 refine eX (CK.gen [(0, 0, 4), (1, 2, 8)] (some 263) _ _ _) (An (ContractT.wk (c_tape_Tape_Config_i1 b b0_1 b1.Config c m) (r8 (r3 rfl))) (An rfl (An rfl ?_)))
 refine eN ?_
 obtain ⟨d, n, h⟩ := bS h
 refine eX (CK.gen [(0, 0, 4), (1, 10, 1)] (some 519) _ _ _) (An (ContractT.wk (c_tape_Tape_Int_i3 c b0_1 b1.T d n) (r4 rfl)) (An rfl (An rfl ?_)))
 refine eN ?_
 obtain ⟨e, o, h⟩ := bS h
 refine eX (CK.gen [(0, 0, 4), (1, 11, 1)] (some 775) _ _ _) (An (ContractT.wk (c_tape_Tape_Int_i3 d b0_1 b1.V e o) (r4 rfl)) (An rfl (An rfl ?_)))
 refine eN ?_
 obtain ⟨f, p, h⟩ := bS h
 refine eX (CK.gen [(0, 0, 4), (1, 12, 1)] (some 1031) _ _ _) (An (ContractT.wk (c_tape_Tape_Ints_i1 e b0_1 b1.Draws f p) (r3 (fr rfl))) (An rfl (An rfl ?_)))
 refine eN ?_
 obtain ⟨g, q, h⟩ := bS h
 refine eX (CK.gen [(0, 0, 4), (1, 13, 1)] (some 1287) _ _ _) (An (ContractT.wk (c_tape_Tape_Small_i3 f b0_1 b1.Query.Op g q) (r4 rfl)) (An rfl (An rfl ?_)))
 refine eN ?_
 obtain ⟨i, s, h⟩ := bS h
 refine eX (CK.gen [(0, 0, 4), (1, 14, 1)] (some 1544) _ _ _) (An (ContractT.wk (c_tape_Tape_Int_i3 g b0_1 b1.Query.A i s) (r4 rfl)) (An rfl (An rfl ?_)))
 refine eN ?_
 obtain ⟨j, t, h⟩ := bS h
 refine eX (CK.gen [(0, 0, 4), (1, 15, 1)] (some 1800) _ _ _) (An (ContractT.wk (c_tape_Tape_Int_i3 i b0_1 b1.Query.B j t) (r4 rfl)) (An rfl (An rfl ?_)))
 refine eN ?_
 obtain ⟨u, v, h⟩ := bS h
 refine eX (CK.gen [(0, 0, 4), (1, 16, 1)] (some 2056) _ _ _) (An (ContractT.wk (c_tape_Tape_Text_i1 j b0_1 b1.Bytes u v) (r3 (fr rfl))) (An rfl (An rfl ?_)))
 first | cases h | rw [← oJ h]
 exact (r12 (r3 (fr (r3 (fr rfl)))))

theorem c_codec_EncodeCommand (p0 : api_Command) (r : ((List Int) × Int)) (h : codec_EncodeCommand p0 = some r) : Contract Try.prog 27 [.agg (enc_api_Command p0)] [] (.tup [lF 1 (List.map (eI .u8) r.1), iI r.2]) [] := by
 refine C0 Try.func27 Try.call27 1 ?_
 delta codec_EncodeCommand at h
 refine eN (eN (eN ?_))
 obtain ⟨a, b, h⟩ := bS h
 refine eX (CK.gen [(258, 0, 4), (1, 0, 17)] none _ _ _) (An (ContractT.wk (c_codec_command_i1 (0:Int) p0 a b) (r12 (r3 (fr (r3 (fr trivial)))))) (An rfl (An rfl ?_)))
 refine eN (eX (CK.gen [(258, 0, 4)] none _ _ none) (An (ContractT.wk (c_codec_written' (tape_Tape.mk a (0:Int) false false) _ rfl) (fr (r3 trivial))) (An rfl (An rfl ?_))))
 first | cases h | rw [← oJ h]
 exact (fr (r1 trivial))

theorem c_codec_Append_i1 (p0 : (List Int)) (p1 : Int) (r : (List Int)) (h : codec_Append_i1 p0 p1 = some r) : ContractT Try.prog 50 [lF 1 (List.map (eI .u8) p0), iI p1] [] none (.own 0) [] (some (5, 1, List.map (eI .u8) r)) := by
 refine C0 Try.func50 Try.call50 1 ?_
 delta codec_Append_i1 at h
 refine eN (eN ?_)
 obtain ⟨a, h⟩ := ckS h
 obtain ⟨b, c, h⟩ := bS h
 refine An (kA (oD a)) ?_
 refine eX (CK.gen [] (some 259) _ _ _) (An (ContractT.wk (c_tape_Append_i3 (([] : List Int) ++ p0) p1 b c) (r1 lE)) (An rfl (An rfl ?_)))
 first | cases h | rw [← oJ h]
 exact rfl

theorem c_script_frame (p0 : (List Int)) (p1 : (List Int)) (r : (List Int)) (h : script_frame p0 p1 = some r) : Contract Try.prog 28 [lF 1 (List.map (eI .u8) p0), lF 1 (List.map (eI .u8) p1)] [] (lF 1 (List.map (eI .u8) r)) [] := by
 refine C0 Try.func28 Try.call28 1 ?_
 delta script_frame at h
 refine eN (eN ?_)
 obtain ⟨a, b, h⟩ := bS h
 obtain ⟨c, h⟩ := ckS h
 refine eX [iI (p1.length : Int)] (An (lenS (eI .u8) p1) ?_)
 refine eX (CK.gen [] none _ _ _) (An (ContractT.wk (c_codec_Append_i1 p0 (p1.length : Int) a b) (fr (r1 trivial))) (An rfl (An rfl ?_)))
 refine An (kA (oD c)) ?_
 first | cases h | rw [← oJ h]
 exact (An ff (An lE trivial))

theorem c_script_Join (p0 : (List api_Command)) (r : ((List Int) × Int)) (h : script_Join p0 = some r) : Contract Try.prog 9 [lF 17 (List.map enc_api_Command p0)] [] (.tup [lF 1 (List.map (eI .u8) r.1), iI r.2]) [] := by
 refine C0 Try.func9 Try.call9 1 ?_
 delta script_Join at h
 refine eN (eN (eN (eX [iI (p0.length : Int)] (An (lenS enc_api_Command p0) ?_))))
 replace h : script_Join_l2 p0 ([] : List Int) (0:Int) = some r := h
 delta script_Join_l2 at h
 obtain ⟨n1, h⟩ := loopS h
 refine eX (Sum.inl ⟨((List Int) × Int) × Nat, fun q => [tM 4 (lF 1 (List.map (eI .u8) q.1.1)), tM 9 (lF 17 (List.map enc_api_Command p0)), tM 10 (iI (p0.length : Int)), tM 11 (iI q.1.2)], fun q => loopN (fun (s : ((List Int) × Int)) => script_Join_l2s p0 s.1 s.2) q.2 q.1 = some r, fun q => q.2⟩) (An (eX [] (eX [] (eX ((([] : List Int), (0:Int)), n1) (An h (r2 (fr (r2 trivial))))))) ?_)
 clear h
 refine fun q h => ?_
 obtain ⟨⟨a, d⟩, n1⟩ := q
 obtain ⟨m1, x1, hm1, h, hl1, hr1⟩ := loopN_step h
 replace hm1 : n1 = m1 + 1 := hm1
 subst hm1
 replace h : script_Join_l2s p0 a d = some x1 := h
 delta script_Join_l2s at h
 refine eN (cD h (fun g1 h => ?_) (fun g1 h => ?_))
 refine eN ?_
 obtain ⟨b, e, h⟩ := bS h
 refine eX (enc_api_Command b) (An (idx_map enc_api_Command e) ?_)
 refine eN ?_
 obtain ⟨c, f, h⟩ := bS h
 refine cK (An (cW (c_codec_EncodeCommand b c f) (r12 (fr (r3 (fr trivial))))) (r1 ?_))
 refine eN (cD h (fun g2 h => ?_) (fun g2 h => ?_))
 cases retS h hr1
 exact eN (r2 trivial)
 refine eN ?_
 obtain ⟨g, i, h⟩ := bS h
 refine cK (An (cW (c_script_frame a c.1 g i) (fr (fr trivial))) (r1 ?_))
 exact eN (jT (_, m1) (An (hl1 _ (oJ h).symm) (An (jL m1) (r1 (fr (fr (r2 trivial)))))))
 replace h := popS h hr1
 first | cases h | rw [← oJ h]
 exact eN (fr (r1 trivial))

theorem c_law30_awake (r : Bool) (h : law30_awake = some r) : Contract Try.prog 8 [] [] (.sb r) [] := by
 refine C0 Try.func8 Try.call8 1 ?_
 delta law30_awake at h
 refine eN (eN ?_)
 obtain ⟨a, d, h⟩ := bS h
 refine cK (An (cW (c_script_Join [(api_Command.mk (6:Int) (0:Int) (api_Config.mk (0:Int) (0:Int) (0:Int) (0:Int) (0:Int) (0:Int) (0:Int) (0:Int)) (0:Int) (0:Int) ([] : List Int) (api_Query.mk (0:Int) (0:Int) (0:Int)) ([] : List Int))] a d) (An ff (An lE trivial))) (r1 ?_))
 refine eN ?_
 obtain ⟨e, f, h⟩ := bS h
 obtain ⟨b, c, h⟩ := bS h
 refine eN (An (fun g1 => ?_) (fun g1 => ?_))
 refine eX [iI (a.1.length : Int)] (An (lenS (eI .u8) a.1) ?_)
 refine An (fun g2 => ?_) (fun g2 => ?_)
 refine eX [.int .u8 e] (An (idx_map (eI .u8) (gdT (aR g1 g2) f)) ?_)
 refine An (fun g3 => ?_) (fun g3 => ?_)
 refine eX [.int .u8 b] (An (idx_map (eI .u8) (gdT (aR (aR g1 g2) g3) c)) ?_)
 first | cases h | rw [← oJ h]
 exact (An (Eq.symm (aR (aR (aR g1 g2) g3) rfl)) trivial)
 first | cases h | rw [← oJ h]
 exact (An (Eq.symm (aL (aR (aR g1 g2) g3))) trivial)
 first | cases h | rw [← oJ h]
 exact (An (Eq.symm (aL (aL (aR g1 g2)))) trivial)
 first | cases h | rw [← oJ h]
 exact (An (Eq.symm (aL (aL (aL g1)))) trivial)

theorem c_ref27_List (p0 : (List Int)) (r : (List Int)) (h : ref27_List p0 = some r) : Contract Try.prog 57 [lF 1 (List.map (eI .i64) p0)] [] (lF 1 (List.map (eI .i64) r)) [] := by
 refine C0 Try.func57 Try.call57 1 ?_
 delta ref27_List at h
 refine eN (eN ?_)
 obtain ⟨a, h⟩ := ckS h
 refine eX [iI (p0.length : Int)] (An (lenS (eI .i64) p0) ?_)
 refine An (kA (oD a)) ?_
 first | cases h | rw [← oJ h]
 exact (An ff (An lE trivial))

theorem c_ref27_Bytes (p0 : (List Int)) (r : (List Int)) (h : ref27_Bytes p0 = some r) : Contract Try.prog 58 [lF 1 (List.map (eI .u8) p0)] [] (lF 1 (List.map (eI .i64) r)) [] := by
 refine C0 Try.func58 Try.call58 1 ?_
 delta ref27_Bytes at h
 refine eN (eN (eX [iI (p0.length : Int)] (An (lenS (eI .u8) p0) ?_)))
 refine eN (eX [iI (p0.length : Int)] (An (lenS (eI .u8) p0) ?_))
 replace h : ref27_Bytes_l2 p0 [(p0.length : Int)] (0:Int) = some r := h
 delta ref27_Bytes_l2 at h
 obtain ⟨n1, h⟩ := loopS h
 refine eX (Sum.inl ⟨((List Int) × Int) × Nat, fun q => [tM 3 (.own 259), tM 9 (lF 1 (List.map (eI .u8) p0)), tM 10 (iI (p0.length : Int)), tM 11 (iI q.1.2), (.tok 259, .tok 2 1 (List.map (eI .i64) q.1.1))], fun q => loopN (fun (s : ((List Int) × Int)) => ref27_Bytes_l2s p0 s.1 s.2) q.2 q.1 = some r, fun q => q.2⟩) (An (eX [] (eX [] (eX (([(p0.length : Int)], (0:Int)), n1) (An h (r1 (fr (r2 (An lE trivial)))))))) ?_)
 clear h
 refine fun q h => ?_
 obtain ⟨⟨b, a⟩, n1⟩ := q
 obtain ⟨m1, x1, hm1, h, hl1, hr1⟩ := loopN_step h
 replace hm1 : n1 = m1 + 1 := hm1
 subst hm1
 replace h : ref27_Bytes_l2s p0 b a = some x1 := h
 delta ref27_Bytes_l2s at h
 refine eN (cD h (fun g1 h => ?_) (fun g1 h => ?_))
 refine eN ?_
 obtain ⟨c, d, h⟩ := bS h
 refine eX [.int .u8 c] (An (idx_map (eI .u8) d) ?_)
 refine eN ?_
 obtain ⟨e, h⟩ := ckS h
 refine An (kA (oD e)) ?_
 exact eN (eX [(259, some 1285)] (eX [] (eX (((b ++ [(w64 c)]), (w64 (a + (1:Int)))), m1) (An (hl1 ((b ++ [(w64 c)]), (w64 (a + (1:Int)))) (oJ h).symm) (An (Nat.lt_succ_self m1) (r1 (fr (r2 (An lE trivial)))))))))
 replace h := popS h hr1
 first | cases h | rw [← oJ h]
 exact eN (fr trivial)

theorem c_codec_Read (p0 : (List Int)) (p1 : Int) (r : (Int × Int × Bool)) (h : codec_Read p0 p1 = some r) : Contract Try.prog 31 [lF 1 (List.map (eI .u8) p0), iI p1] [] (.tup [iI r.1, iI r.2.1, .sb r.2.2]) [] := by
 refine C0 Try.func31 Try.call31 1 ?_
 delta codec_Read at h
 refine eN (eN ?_)
 obtain ⟨a, b, h⟩ := bS h
 refine cK (An (cW (c_tape_Read p0 p1 a b) (fr (r1 trivial))) (r1 ?_))
 first | cases h | rw [← oJ h]
 exact (r3 trivial)

theorem c_script_Split (p0 : (List Int)) (r : ((List (List Int)) × (List Int))) (h : script_Split p0 = some r) : Contract Try.prog 12 [lF 1 (List.map (eI .u8) p0)] [] (.tup [lF 1 (List.map (eL 1 (eI .u8)) r.1), lF 1 (List.map (eI .u8) r.2)]) [] := by
 refine C0 Try.func12 Try.call12 1 ?_
 delta script_Split at h
 refine eN (eN (eN ?_))
 replace h : script_Split_l2 p0 ([] : List (List Int)) (0:Int) = some r := h
 delta script_Split_l2 at h
 obtain ⟨n1, h⟩ := loopS h
 refine eX (Sum.inl ⟨((List (List Int)) × Int) × Nat, fun q => [tM 0 (lF 1 (List.map (eI .u8) p0)), tM 4 (.own 768), tM 5 (iI q.1.2), (.tok 768, .tok 25 1 (List.map (eL 1 (eI .u8)) q.1.1))], fun q => loopN (fun (s : ((List (List Int)) × Int)) => script_Split_l2s p0 s.1 s.2) q.2 q.1 = some r, fun q => q.2⟩) (An (eX [(768, none)] (eX [] (eX ((([] : List (List Int)), (0:Int)), n1) (An h (r1 (fr (r2 trivial))))))) ?_)
 clear h
 refine fun q h => ?_
 obtain ⟨⟨d, e⟩, n1⟩ := q
 obtain ⟨m1, x1, hm1, h, hl1, hr1⟩ := loopN_step h
 replace hm1 : n1 = m1 + 1 := hm1
 subst hm1
 replace h : script_Split_l2s p0 d e = some x1 := h
 delta script_Split_l2s at h
 refine eN ?_
 obtain ⟨a, g, h⟩ := bS h
 refine cK (An (cW (c_codec_Read p0 e a g) (fr (r1 trivial))) (r1 ?_))
 refine eN (eN (An (fun g1 => ?_) (fun g1 => ?_)))
 refine An (fun g2 => ?_) (fun g2 => ?_)
 refine An (fun g3 => ?_) (fun g3 => ?_)
 refine eX [iI (p0.length : Int)] (An (lenS (eI .u8) p0) ?_)
 refine An (fun g4 => ?_) (fun g4 => ?_)
 replace h := cT (oR (oR (oR g1 g2) g3) g4) h
 refine eN ?_
 obtain ⟨b, h⟩ := ckS h
 obtain ⟨c, h⟩ := ckS h
 refine An (kA (oD b)) ?_
 refine An (kA (oD c)) ?_
 cases retS h hr1
 exact (fr (An ff (An lE trivial)))
 replace h := cF (oR (oR (oR g1 g2) g3) g4) h
 refine eN ?_
 obtain ⟨i, h⟩ := ckS h
 obtain ⟨j, h⟩ := ckS h
 obtain ⟨f, h⟩ := ckS h
 refine An (kA (oD i)) ?_
 refine An (kA (oD j)) ?_
 refine An (kA (oD f)) ?_
 exact eN (eX [(768, some 1291)] (eX [] (eX (((d ++ [(([] : List Int) ++ ((p0.take ((w64 (a.2.1 + a.1))).toNat).drop (a.2.1).toNat))]), (w64 (a.2.1 + a.1))), m1) (An (hl1 ((d ++ [(([] : List Int) ++ ((p0.take ((w64 (a.2.1 + a.1))).toNat).drop (a.2.1).toNat))]), (w64 (a.2.1 + a.1))) (oJ h).symm) (An (Nat.lt_succ_self m1) (r1 (fr (r1 (An lE trivial)))))))))
 replace h := cT (oL (oR (oR g1 g2) g3)) h
 refine eN ?_
 obtain ⟨b, h⟩ := ckS h
 obtain ⟨c, h⟩ := ckS h
 refine An (kA (oD b)) ?_
 refine An (kA (oD c)) ?_
 cases retS h hr1
 exact (fr (An ff (An lE trivial)))
 replace h := cT (oL (oL (oR g1 g2))) h
 refine eN ?_
 obtain ⟨b, h⟩ := ckS h
 obtain ⟨c, h⟩ := ckS h
 refine An (kA (oD b)) ?_
 refine An (kA (oD c)) ?_
 cases retS h hr1
 exact (fr (An ff (An lE trivial)))
 replace h := cT (oL (oL (oL g1))) h
 refine eN ?_
 obtain ⟨b, h⟩ := ckS h
 obtain ⟨c, h⟩ := ckS h
 refine An (kA (oD b)) ?_
 refine An (kA (oD c)) ?_
 cases retS h hr1
 exact (fr (An ff (An lE trivial)))

theorem c_ref27_Read (p0 : (List Int)) (p1 : Int) (r : (Int × Int × Bool)) (h : ref27_Read p0 p1 = some r) : Contract Try.prog 39 [lF 1 (List.map (eI .u8) p0), iI p1] [] (.tup [iI r.1, iI r.2.1, .sb r.2.2]) [] := by
 refine C0 Try.func39 Try.call39 1 ?_
 delta ref27_Read at h
 refine eN (eN (eN (An (fun g1 => ?_) (fun g1 => ?_))))
 refine eX [iI (p0.length : Int)] (An (lenS (eI .u8) p0) ?_)
 refine An (fun g2 => ?_) (fun g2 => ?_)
 replace h := cT (oR g1 g2) h
 first | cases h | rw [← oJ h]
 exact eN (r3 trivial)
 replace h := cF (oR g1 g2) h
 refine eN (eN ?_)
 replace h : ref27_Read_l3 p0 p1 (0:Int) (0:Int) = some r := h
 delta ref27_Read_l3 at h
 obtain ⟨n1, h⟩ := loopS h
 refine eX (Sum.inl ⟨(Int × Int) × Nat, fun q => [tM 0 (lF 1 (List.map (eI .u8) p0)), tM 1 (iI p1), tM 7 (iU q.1.1), tM 8 (iI q.1.2)], fun q => loopN (fun (s : (Int × Int)) => ref27_Read_l3s p0 p1 s.1 s.2) q.2 q.1 = some r, fun q => q.2⟩) (An (eX [] (eX [] (eX (((0:Int), (0:Int)), n1) (An h (r1 (fr (r3 trivial))))))) ?_)
 clear h
 refine fun q h => ?_
 obtain ⟨⟨c, a⟩, n1⟩ := q
 obtain ⟨m1, x1, hm1, h, hl1, hr1⟩ := loopN_step h
 replace hm1 : n1 = m1 + 1 := hm1
 subst hm1
 replace h : ref27_Read_l3s p0 p1 c a = some x1 := h
 delta ref27_Read_l3s at h
 refine eN (eX (some (⟨Unit, fun _ => [tM 0 (lF 1 (List.map (eI .u8) p0)), tM 1 (iI p1), tM 7 (iU c), tM 8 (iI a), tM 28 (.sb ((decide (a < (10:Int))) && (decide ((w64 (p1 + a)) < (p0.length : Int)))))], fun _ => True, fun _ => 0⟩, 1000000)) (An ?_ (fun _ _ => ?_)))
 refine An (fun g3 => ?_) (fun g3 => ?_)
 refine eX [iI (p0.length : Int)] (An (lenS (eI .u8) p0) ?_)
 exact jU (An trivial (r1 (fr (r3 (An (Eq.symm (aR g3 rfl)) trivial)))))
 exact jU (An trivial (r1 (fr (r3 (An (Eq.symm (aL g3)) trivial)))))
 refine cD h (fun g4 h => ?_) (fun g4 h => ?_)
 refine eN ?_
 obtain ⟨b, e, h⟩ := bS h
 refine eX [.int .u8 b] (An (idx_map (eI .u8) e) ?_)
 refine eN (eX (some (⟨Unit, fun _ => [tM 0 (lF 1 (List.map (eI .u8) p0)), tM 1 (iI p1), tM 7 (iU c), tM 8 (iI a), tM 9 (.int .u8 b), tM 42 (.sb ((a == (9:Int)) && (decide (b > (1:Int)))))], fun _ => True, fun _ => 0⟩, 2000000)) (An ?_ (fun _ _ => ?_)))
 refine An (fun g5 => ?_) (fun g5 => ?_)
 exact jU (An trivial (r1 (fr (r4 (An (Eq.symm (aR g5 rfl)) trivial)))))
 exact jU (An trivial (r1 (fr (r4 (An (Eq.symm (aL g5)) trivial)))))
 refine cD h (fun g6 h => ?_) (fun g6 h => ?_)
 cases retS h hr1
 exact eN (r3 trivial)
 refine eN ?_
 obtain ⟨d, h⟩ := ckS h
 refine An (oD d) ?_
 refine eN (cD h (fun g7 h => ?_) (fun g7 h => ?_))
 exact eN (jT (_, m1) (An (hl1 _ (oJ h).symm) (An (jL m1) (r1 (fr (r3 trivial))))))
 refine eN (eX (some (⟨Unit, fun _ => [tM 1 (iI p1), tM 7 (iU (ior .u64 c (ishl .u64 (wu64 (iand .u8 b (127:Int))) (wu64 (w64 ((7:Int) * a)))))), tM 8 (iI a), tM 59 (.sb ((b == (0:Int)) && (decide (a > (0:Int)))))], fun _ => True, fun _ => 0⟩, 3000000)) (An ?_ (fun _ _ => ?_)))
 refine An (fun g8 => ?_) (fun g8 => ?_)
 exact jU (An trivial (r4 (An (Eq.symm (aR g8 rfl)) trivial)))
 exact jU (An trivial (r4 (An (Eq.symm (aL g8)) trivial)))
 refine cD h (fun g9 h => ?_) (fun g9 h => ?_)
 cases retS h hr1
 exact eN (r3 trivial)
 refine eN (An (by decide) ?_)
 refine eN (eN (cD h (fun g10 h => ?_) (fun g10 h => ?_)))
 cases retS h hr1
 exact eN (eN (r3 trivial))
 cases retS h hr1
 exact eN (r3 trivial)
 replace h := popS h hr1
 first | cases h | rw [← oJ h]
 exact eN (r3 trivial)
 replace h := cT (oL g1) h
 first | cases h | rw [← oJ h]
 exact eN (r3 trivial)

theorem c_ref27_Numbers (p0 : (List Int)) (r : ((List Int) × Int)) (h : ref27_Numbers p0 = some r) : Contract Try.prog 54 [lF 1 (List.map (eI .u8) p0)] [] (.tup [lF 1 (List.map (eI .i64) r.1), iI r.2]) [] := by
 refine C0 Try.func54 Try.call54 1 ?_
 delta ref27_Numbers at h
 refine eN (eN (eN ?_))
 replace h : ref27_Numbers_l2 p0 ([] : List Int) (0:Int) = some r := h
 delta ref27_Numbers_l2 at h
 obtain ⟨n1, h⟩ := loopS h
 refine eX (Sum.inl ⟨((List Int) × Int) × Nat, fun q => [tM 0 (lF 1 (List.map (eI .u8) p0)), tM 4 (.own 257), tM 5 (iI q.1.2), (.tok 257, .tok 2 1 (List.map (eI .i64) q.1.1))], fun q => loopN (fun (s : ((List Int) × Int)) => ref27_Numbers_l2s p0 s.1 s.2) q.2 q.1 = some r, fun q => q.2⟩) (An (eX [] (eX [] (eX ((([] : List Int), (0:Int)), n1) (An h (r1 (fr (r1 (An lE trivial)))))))) ?_)
 clear h
 refine fun q h => ?_
 obtain ⟨⟨b, c⟩, n1⟩ := q
 obtain ⟨m1, x1, hm1, h, hl1, hr1⟩ := loopN_step h
 replace hm1 : n1 = m1 + 1 := hm1
 subst hm1
 replace h : ref27_Numbers_l2s p0 b c = some x1 := h
 delta ref27_Numbers_l2s at h
 refine eN (eX [iI (p0.length : Int)] (An (lenS (eI .u8) p0) ?_))
 refine cD h (fun g1 h => ?_) (fun g1 h => ?_)
 refine eN ?_
 obtain ⟨a, d, h⟩ := bS h
 refine cK (An (cW (c_ref27_Read p0 c a d) (fr (r1 trivial))) (r1 ?_))
 refine eN (cD h (fun g2 h => ?_) (fun g2 h => ?_))
 cases retS h hr1
 exact eN (r2 trivial)
 refine eN ?_
 obtain ⟨e, h⟩ := ckS h
 refine An (kA (oD e)) ?_
 exact eX [(257, some 1540)] (eX [] (eX (((b ++ [a.1]), a.2.1), m1) (An (hl1 ((b ++ [a.1]), a.2.1) (oJ h).symm) (An (Nat.lt_succ_self m1) (r1 (fr (r1 (An lE trivial))))))))
 replace h := popS h hr1
 first | cases h | rw [← oJ h]
 exact eN (fr (r1 trivial))

theorem c_ref27_open_n (p0 : (List Int)) (r : ((Option ref27_Cursor) × Bool)) (h : ref27_open p0 = some r) (hz : r.1 = none) : Contract Try.prog 32 [lF 1 (List.map (eI .u8) p0)] [] (.tup [.nilp, .sb r.2]) [] := by
 refine C0 Try.func32 Try.call32 1 ?_
 delta ref27_open at h
 refine eN (eN (eX [iI (p0.length : Int)] (An (lenS (eI .u8) p0) ?_)))
 refine An (fun g1 => ?_) (fun g1 => ?_)
 replace h := cT g1 h
 first | cases h | rw [← oJ h]
 exact eN (r1 trivial)
 replace h := cF g1 h
 refine eN ?_
 obtain ⟨a, b, h⟩ := bS h
 refine cK (An (cW (c_ref27_Numbers p0 a b) (fr trivial)) (r1 ?_))
 refine eN ?_
 first | cases h | rw [← oJ h]
 cases hz

theorem c_ref27_open_b (p0 : (List Int)) (r : ((Option ref27_Cursor) × Bool)) (z : ref27_Cursor) (h : ref27_open p0 = some r) (hz : r.1 = some z) : Contract Try.prog 32 [lF 1 (List.map (eI .u8) p0)] [] (.tup [.ptr 0 0, .sb r.2]) [[lF 1 (List.map (eI .i64) z.L), iI z.At, .sb z.Bad]] := by
 refine C0 Try.func32 Try.call32 1 ?_
 delta ref27_open at h
 refine eN (eN (eX [iI (p0.length : Int)] (An (lenS (eI .u8) p0) ?_)))
 refine An (fun g1 => ?_) (fun g1 => ?_)
 replace h := cT g1 h
 refine eN ?_
 first | cases h | rw [← oJ h]
 cases hz
 replace h := cF g1 h
 refine eN ?_
 obtain ⟨a, b, h⟩ := bS h
 refine cK (An (cW (c_ref27_Numbers p0 a b) (fr trivial)) (r1 ?_))
 refine eN ?_
 first | cases h | rw [← oJ h]
 cases hz
 exact (r1 (fr (r2 trivial)))

theorem c_ref27_Cursor_Take (p0 : ref27_Cursor) (r : (Int × ref27_Cursor)) (h : ref27_Cursor_Take p0 = some r) : Contract Try.prog 33 [.ptr 0 0] [[lF 1 (List.map (eI .i64) p0.L), iI p0.At, .sb p0.Bad]] (iI r.1) [[lF 1 (List.map (eI .i64) r.2.L), iI r.2.At, .sb r.2.Bad]] := by
 refine C0 Try.func33 Try.call33 2 ?_
 delta ref27_Cursor_Take at h
 refine eN (eN (eX [iI (p0.L.length : Int)] (An (lenS (eI .i64) p0.L) ?_)))
 refine cD h (fun g1 h => ?_) (fun g1 h => ?_)
 first | cases h | rw [← oJ h]
 exact eN (eN (r1 (fr (r2 trivial))))
 refine eN (eN ?_)
 obtain ⟨a, b, h⟩ := bS h
 refine eX [iI a] (An (idx_map (eI .i64) b) ?_)
 first | cases h | rw [← oJ h]
 exact (r1 (fr (r2 trivial)))

theorem c_ref27_Cursor_Many (p0 : ref27_Cursor) (r : (Int × ref27_Cursor)) (h : ref27_Cursor_Many p0 = some r) : Contract Try.prog 55 [.ptr 0 0] [[lF 1 (List.map (eI .i64) p0.L), iI p0.At, .sb p0.Bad]] (iI r.1) [[lF 1 (List.map (eI .i64) r.2.L), iI r.2.At, .sb r.2.Bad]] := by
 refine C0 Try.func55 Try.call55 2 ?_
 delta ref27_Cursor_Many at h
 refine eN (eN ?_)
 obtain ⟨a, b, h⟩ := bS h
 refine eX (CK.gen [(0, 0, 3)] none _ _ none) (An (ContractT.wk (c_ref27_Cursor_Take p0 a b) (fr (r2 trivial))) (An rfl (An rfl ?_)))
 refine eN (eN (An (fun g1 => ?_) (fun g1 => ?_)))
 refine eX [iI (a.2.L.length : Int)] (An (lenS (eI .i64) a.2.L) ?_)
 refine An (fun g2 => ?_) (fun g2 => ?_)
 replace h := cT (oR g1 g2) h
 first | cases h | rw [← oJ h]
 exact eN (eN (r1 (fr (r2 trivial))))
 replace h := cF (oR g1 g2) h
 first | cases h | rw [← oJ h]
 exact eN (r1 (fr (r2 trivial)))
 replace h := cT (oL g1) h
 first | cases h | rw [← oJ h]
 exact eN (eN (r1 (fr (r2 trivial))))

theorem c_ref27_Cursor_List (p0 : ref27_Cursor) (r : ((List Int) × ref27_Cursor)) (h : ref27_Cursor_List p0 = some r) : Contract Try.prog 35 [.ptr 0 0] [[lF 1 (List.map (eI .i64) p0.L), iI p0.At, .sb p0.Bad]] (lF 1 (List.map (eI .i64) r.1)) [[lF 1 (List.map (eI .i64) r.2.L), iI r.2.At, .sb r.2.Bad]] := by
 refine C0 Try.func35 Try.call35 2 ?_
 delta ref27_Cursor_List at h
 refine eN (eN (eN ?_))
 obtain ⟨a, i, h⟩ := bS h
 refine eX (CK.gen [(0, 0, 3)] none _ _ none) (An (ContractT.wk (c_ref27_Cursor_Many p0 a i) (fr (r2 trivial))) (An rfl (An rfl ?_)))
 replace h : ref27_Cursor_List_l2 ([] : List Int) a.1 a.2.L a.2.At a.2.Bad = some r := h
 delta ref27_Cursor_List_l2 at h
 obtain ⟨n1, h⟩ := loopS h
 refine eX (Sum.inl ⟨((List Int) × Int × (List Int) × Int × Bool) × Nat, fun q => [tM 0 (.ptr 0 0), tM 3 (.own 769), tM 4 (iI q.1.2.1), tB 0 [lF 1 (List.map (eI .i64) q.1.2.2.1), iI q.1.2.2.2.1, .sb q.1.2.2.2.2], (.tok 769, .tok 2 1 (List.map (eI .i64) q.1.1))], fun q => loopN (fun (s : ((List Int) × Int × (List Int) × Int × Bool)) => ref27_Cursor_List_l2s s.1 s.2.1 s.2.2.1 s.2.2.2.1 s.2.2.2.2) q.2 q.1 = some r, fun q => q.2⟩) (An (eX [(769, none)] (eX [] (eX ((([] : List Int), a.1, a.2.L, a.2.At, a.2.Bad), n1) (An h (r2 (fr (r3 trivial))))))) ?_)
 clear h
 refine fun q h => ?_
 obtain ⟨⟨f, g, c, d, e⟩, n1⟩ := q
 obtain ⟨m1, x1, hm1, h, hl1, hr1⟩ := loopN_step h
 replace hm1 : n1 = m1 + 1 := hm1
 subst hm1
 replace h : ref27_Cursor_List_l2s f g c d e = some x1 := h
 delta ref27_Cursor_List_l2s at h
 refine eN (cD h (fun g1 h => ?_) (fun g1 h => ?_))
 refine eN ?_
 obtain ⟨b, j, h⟩ := bS h
 obtain ⟨k, h⟩ := ckS h
 refine eX (CK.gen [(0, 0, 3)] none _ _ none) (An (ContractT.wk (c_ref27_Cursor_Take (ref27_Cursor.mk c d e) b j) (fr (r2 trivial))) (An rfl (An rfl ?_)))
 refine An (kA (oD k)) ?_
 exact eN (eX [(769, some 1030)] (eX [] (eX (((f ++ [b.1]), (w64 (g - (1:Int))), b.2.L, b.2.At, b.2.Bad), m1) (An (hl1 ((f ++ [b.1]), (w64 (g - (1:Int))), b.2.L, b.2.At, b.2.Bad) (oJ h).symm) (An (Nat.lt_succ_self m1) (r2 (fr (r2 (An lE trivial)))))))))
 replace h := popS h hr1
 first | cases h | rw [← oJ h]
 exact eN (fr (fr (r2 trivial)))

theorem c_ref27_Cursor_Bytes (p0 : ref27_Cursor) (r : ((List Int) × ref27_Cursor)) (h : ref27_Cursor_Bytes p0 = some r) : Contract Try.prog 36 [.ptr 0 0] [[lF 1 (List.map (eI .i64) p0.L), iI p0.At, .sb p0.Bad]] (lF 1 (List.map (eI .u8) r.1)) [[lF 1 (List.map (eI .i64) r.2.L), iI r.2.At, .sb r.2.Bad]] := by
 refine C0 Try.func36 Try.call36 2 ?_
 delta ref27_Cursor_Bytes at h
 refine eN (eN (eN ?_))
 obtain ⟨a, i, h⟩ := bS h
 refine eX (CK.gen [(0, 0, 3)] none _ _ none) (An (ContractT.wk (c_ref27_Cursor_Many p0 a i) (fr (r2 trivial))) (An rfl (An rfl ?_)))
 replace h : ref27_Cursor_Bytes_l2 ([] : List Int) a.1 a.2.L a.2.At a.2.Bad = some r := h
 delta ref27_Cursor_Bytes_l2 at h
 obtain ⟨n1, h⟩ := loopS h
 refine eX (Sum.inl ⟨((List Int) × Int × (List Int) × Int × Bool) × Nat, fun q => [tM 0 (.ptr 0 0), tM 3 (.own 769), tM 4 (iI q.1.2.1), tB 0 [lF 1 (List.map (eI .i64) q.1.2.2.1), iI q.1.2.2.2.1, .sb q.1.2.2.2.2], (.tok 769, .tok 5 1 (List.map (eI .u8) q.1.1))], fun q => loopN (fun (s : ((List Int) × Int × (List Int) × Int × Bool)) => ref27_Cursor_Bytes_l2s s.1 s.2.1 s.2.2.1 s.2.2.2.1 s.2.2.2.2) q.2 q.1 = some r, fun q => q.2⟩) (An (eX [(769, none)] (eX [] (eX ((([] : List Int), a.1, a.2.L, a.2.At, a.2.Bad), n1) (An h (r2 (fr (r3 trivial))))))) ?_)
 clear h
 refine fun q h => ?_
 obtain ⟨⟨f, g, c, d, e⟩, n1⟩ := q
 obtain ⟨m1, x1, hm1, h, hl1, hr1⟩ := loopN_step h
 replace hm1 : n1 = m1 + 1 := hm1
 subst hm1
 replace h : ref27_Cursor_Bytes_l2s f g c d e = some x1 := h
 delta ref27_Cursor_Bytes_l2s at h
 refine eN (cD h (fun g1 h => ?_) (fun g1 h => ?_))
 refine eN ?_
 obtain ⟨b, j, h⟩ := bS h
 refine eX (CK.gen [(0, 0, 3)] none _ _ none) (An (ContractT.wk (c_ref27_Cursor_Take (ref27_Cursor.mk c d e) b j) (fr (r2 trivial))) (An rfl (An rfl ?_)))
 refine eN (eN (An (fun g2 => ?_) (fun g2 => ?_)))
 refine An (fun g3 => ?_) (fun g3 => ?_)
 replace h := cT (oR g2 g3) h
 cases retS h hr1
 exact eN (eN (r1 (fr (r2 trivial))))
 replace h := cF (oR g2 g3) h
 refine eN ?_
 obtain ⟨k, h⟩ := ckS h
 refine An (kA (oD k)) ?_
 exact eN (eX [(769, some 1542)] (eX [] (eX (((f ++ [(IntKind.u8.wrap b.1)]), (w64 (g - (1:Int))), b.2.L, b.2.At, b.2.Bad), m1) (An (hl1 ((f ++ [(IntKind.u8.wrap b.1)]), (w64 (g - (1:Int))), b.2.L, b.2.At, b.2.Bad) (oJ h).symm) (An (Nat.lt_succ_self m1) (r2 (fr (r2 (An lE trivial)))))))))
 replace h := cT (oL g2) h
 cases retS h hr1
 exact eN (eN (r1 (fr (r2 trivial))))
 replace h := popS h hr1
 first | cases h | rw [← oJ h]
 exact eN (fr (fr (r2 trivial)))

theorem c_ref09_SameNumbers (p0 : (List Int)) (p1 : (List Int)) (r : Bool) (h : ref09_SameNumbers p0 p1 = some r) : Contract Try.prog 37 [lF 1 (List.map (eI .i64) p0), lF 1 (List.map (eI .i64) p1)] [] (.sb r) [] := by
 refine C0 Try.func37 Try.call37 1 ?_
 delta ref09_SameNumbers at h
 refine eN (eN (eX [iI (p0.length : Int)] (An (lenS (eI .i64) p0) ?_)))
 refine eX [iI (p1.length : Int)] (An (lenS (eI .i64) p1) ?_)
 refine cD h (fun g1 h => ?_) (fun g1 h => ?_)
 first | cases h | rw [← oJ h]
 exact eN (r1 trivial)
 refine eN (eX [iI (p0.length : Int)] (An (lenS (eI .i64) p0) ?_))
 replace h : ref09_SameNumbers_l3 p0 p1 (0:Int) = some r := h
 delta ref09_SameNumbers_l3 at h
 obtain ⟨n1, h⟩ := loopS h
 refine eX (Sum.inl ⟨Int × Nat, fun q => [tM 0 (lF 1 (List.map (eI .i64) p0)), tM 1 (lF 1 (List.map (eI .i64) p1)), tM 12 (iI (p0.length : Int)), tM 13 (iI q.1)], fun q => loopN (fun (s : Int) => ref09_SameNumbers_l3s p0 p1 s) q.2 q.1 = some r, fun q => q.2⟩) (An (eX [] (eX [] (eX ((0:Int), n1) (An h (r1 (fr (fr (r2 trivial)))))))) ?_)
 clear h
 refine fun q h => ?_
 obtain ⟨a, n1⟩ := q
 obtain ⟨m1, x1, hm1, h, hl1, hr1⟩ := loopN_step h
 replace hm1 : n1 = m1 + 1 := hm1
 subst hm1
 replace h : ref09_SameNumbers_l3s p0 p1 a = some x1 := h
 delta ref09_SameNumbers_l3s at h
 refine eN (cD h (fun g2 h => ?_) (fun g2 h => ?_))
 refine eN (eN ?_)
 obtain ⟨b, c, h⟩ := bS h
 obtain ⟨d, e, h⟩ := bS h
 refine eX [iI b] (An (idx_map (eI .i64) c) ?_)
 refine eX [iI d] (An (idx_map (eI .i64) e) ?_)
 refine cD h (fun g3 h => ?_) (fun g3 h => ?_)
 cases retS h hr1
 exact eN (r1 trivial)
 exact eN (jT (_, m1) (An (hl1 _ (oJ h).symm) (An (jL m1) (r1 (fr (fr (r2 trivial)))))))
 replace h := popS h hr1
 first | cases h | rw [← oJ h]
 exact eN (r1 trivial)

theorem c_ref30_Split (p0 : (List Int)) (r : ((List (List Int)) × (List Int))) (h : ref30_Split p0 = some r) : Contract Try.prog 15 [lF 1 (List.map (eI .u8) p0)] [] (.tup [lF 1 (List.map (eL 1 (eI .u8)) r.1), lF 1 (List.map (eI .u8) r.2)]) [] := by
 refine C0 Try.func15 Try.call15 1 ?_
 delta ref30_Split at h
 refine eN (eN ?_)
 replace h : ref30_Split_l2 p0 ([] : List (List Int)) = some r := h
 delta ref30_Split_l2 at h
 obtain ⟨n1, h⟩ := loopS h
 refine eX (Sum.inl ⟨((List Int) × (List (List Int))) × Nat, fun q => [tM 0 (lF 1 (List.map (eI .u8) q.1.1)), tM 4 (.own 512), (.tok 512, .tok 25 1 (List.map (eL 1 (eI .u8)) q.1.2))], fun q => loopN (fun (s : ((List Int) × (List (List Int)))) => ref30_Split_l2s s.1 s.2) q.2 q.1 = some r, fun q => q.2⟩) (An (eX [(512, none)] (eX [] (eX ((p0, ([] : List (List Int))), n1) (An h (r1 (fr (r1 trivial))))))) ?_)
 clear h
 refine fun q h => ?_
 obtain ⟨⟨b, c⟩, n1⟩ := q
 obtain ⟨m1, x1, hm1, h, hl1, hr1⟩ := loopN_step h
 replace hm1 : n1 = m1 + 1 := hm1
 subst hm1
 replace h : ref30_Split_l2s b c = some x1 := h
 delta ref30_Split_l2s at h
 refine eN ?_
 obtain ⟨a, e, h⟩ := bS h
 refine cK (An (cW (c_ref27_Read b (0:Int) a e) (fr (r1 trivial))) (r1 ?_))
 refine eN (eN (An (fun g1 => ?_) (fun g1 => ?_)))
 refine An (fun g2 => ?_) (fun g2 => ?_)
 refine An (fun g3 => ?_) (fun g3 => ?_)
 refine eX [iI (b.length : Int)] (An (lenS (eI .u8) b) ?_)
 refine An (fun g4 => ?_) (fun g4 => ?_)
 replace h := cT (oR (oR (oR g1 g2) g3) g4) h
 cases retS h hr1
 exact eN (fr (fr trivial))
 replace h := cF (oR (oR (oR g1 g2) g3) g4) h
 refine eN ?_
 obtain ⟨f, h⟩ := ckS h
 obtain ⟨g, h⟩ := ckS h
 obtain ⟨d, h⟩ := ckS h
 refine An (kA (oD f)) ?_
 refine An (kA (oD g)) ?_
 refine An (kA (oD d)) ?_
 exact eX [(512, some 1033)] (eX [] (eX (((b.drop ((w64 (a.2.1 + a.1))).toNat), (c ++ [((b.take ((w64 (a.2.1 + a.1))).toNat).drop (a.2.1).toNat)])), m1) (An (hl1 ((b.drop ((w64 (a.2.1 + a.1))).toNat), (c ++ [((b.take ((w64 (a.2.1 + a.1))).toNat).drop (a.2.1).toNat)])) (oJ h).symm) (An (Nat.lt_succ_self m1) (r1 (An ff (An lE (An lE trivial))))))))
 replace h := cT (oL (oR (oR g1 g2) g3)) h
 cases retS h hr1
 exact eN (fr (fr trivial))
 replace h := cT (oL (oL (oR g1 g2))) h
 cases retS h hr1
 exact eN (fr (fr trivial))
 replace h := cT (oL (oL (oL g1))) h
 cases retS h hr1
 exact eN (fr (fr trivial))

theorem c_tape_Tape_Int_i4 (b0_0 : (List Int)) (b0_1 : Int) (b0_3 : Bool) (b1 : Int) (r : (Int × Bool × Int)) (h : tape_Tape_Int_i4 b0_0 b0_1 b0_3 b1 = some r) : Contract Try.prog 69 [.ptr 0 0, .ptr 1 0] [[lF 1 (List.map (eI .u8) b0_0), iI b0_1, .sb true, .sb b0_3], [iI b1]] (.tup []) [[lF 1 (List.map (eI .u8) b0_0), iI r.1, .sb true, .sb r.2.1], [iI r.2.2]] := by
 refine C0 Try.func69 Try.call69 3 ?_
 delta tape_Tape_Int_i4 at h
 refine eN (An (fun g => absurd g (by decide)) (fun _ => ?_))
 refine eN (cD h (fun g1 h => ?_) (fun g1 h => ?_))
 first | cases h | rw [← oJ h]
 exact (fr (r4 trivial))
 refine eN ?_
 obtain ⟨a, b, h⟩ := bS h
 refine cK (An (cW (c_tape_Read b0_0 b0_1 a b) (fr (r1 trivial))) (r1 ?_))
 refine eN (cD h (fun g2 h => ?_) (fun g2 h => ?_))
 first | cases h | rw [← oJ h]
 exact eN (fr (r4 trivial))
 first | cases h | rw [← oJ h]
 exact eN (fr (r4 trivial))

theorem c_tape_Tape_Small_i4 (b0_0 : (List Int)) (b0_1 : Int) (b0_3 : Bool) (b1 : Int) (r : (Int × Bool × Int)) (h : tape_Tape_Small_i4 b0_0 b0_1 b0_3 b1 = some r) : Contract Try.prog 68 [.ptr 0 0, .ptr 1 0] [[lF 1 (List.map (eI .u8) b0_0), iI b0_1, .sb true, .sb b0_3], [iI b1]] (.tup []) [[lF 1 (List.map (eI .u8) b0_0), iI r.1, .sb true, .sb r.2.1], [iI r.2.2]] := by
 refine C0 Try.func68 Try.call68 3 ?_
 delta tape_Tape_Small_i4 at h
 refine eN (eN ?_)
 obtain ⟨a, b, h⟩ := bS h
 refine eX (CK.gen [(0, 0, 4), (6, 0, 1)] none _ _ none) (An (ContractT.wk (c_tape_Tape_Int_i4 b0_0 b0_1 b0_3 b1 a b) (fr (r4 trivial))) (An rfl (An rfl ?_)))
 first | cases h | rw [← oJ h]
 exact eN (fr (r4 trivial))

theorem c_tape_Tape_Ratio_i1 (b0_0 : (List Int)) (b0_1 : Int) (b0_3 : Bool) (b1 : api_Ratio) (r : (Int × Bool × api_Ratio)) (h : tape_Tape_Ratio_i1 b0_0 b0_1 b0_3 b1 = some r) : Contract Try.prog 75 [.ptr 0 0, .ptr 1 0] [[lF 1 (List.map (eI .u8) b0_0), iI b0_1, .sb true, .sb b0_3], [iI b1.Num, iI b1.Den]] (.tup []) [[lF 1 (List.map (eI .u8) b0_0), iI r.1, .sb true, .sb r.2.1], [iI r.2.2.Num, iI r.2.2.Den]] := by
 refine C0 Try.func75 Try.call75 3 ?_
 delta tape_Tape_Ratio_i1 at h
 refine eN ?_
 obtain ⟨a, b, h⟩ := bS h
 refine eX (CK.gen [(0, 0, 4), (1, 0, 1)] none _ _ none) (An (ContractT.wk (c_tape_Tape_Int_i4 b0_0 b0_1 b0_3 b1.Num a b) (fr (r4 trivial))) (An rfl (An rfl ?_)))
 refine eN ?_
 obtain ⟨c, d, h⟩ := bS h
 refine eX (CK.gen [(0, 0, 4), (1, 1, 1)] none _ _ none) (An (ContractT.wk (c_tape_Tape_Int_i4 b0_0 a.1 a.2.1 b1.Den c d) (fr (r4 trivial))) (An rfl (An rfl ?_)))
 first | cases h | rw [← oJ h]
 exact (fr (r5 trivial))

theorem c_tape_Tape_Within_i3 (p2 : Int) (p3 : Int) (b0_0 : (List Int)) (b0_1 : Int) (b0_3 : Bool) (b1 : Int) (r : (Int × Bool × Int)) (h : tape_Tape_Within_i3 p2 p3 b0_0 b0_1 b0_3 b1 = some r) : Contract Try.prog 83 [.ptr 0 0, .ptr 1 0, iI p2, iI p3] [[lF 1 (List.map (eI .u8) b0_0), iI b0_1, .sb true, .sb b0_3], [iI b1]] (.tup []) [[lF 1 (List.map (eI .u8) b0_0), iI r.1, .sb true, .sb r.2.1], [iI r.2.2]] := by
 refine C0 Try.func83 Try.call83 3 ?_
 delta tape_Tape_Within_i3 at h
 refine eN ?_
 obtain ⟨a, b, h⟩ := bS h
 refine eX (CK.gen [(0, 0, 4), (1, 0, 1)] none _ _ none) (An (ContractT.wk (c_tape_Tape_Int_i4 b0_0 b0_1 b0_3 b1 a b) (fr (r4 trivial))) (An rfl (An rfl ?_)))
 refine eN (eX (some (⟨Unit, fun _ => [tM 0 (.ptr 0 0), tM 28 (.sb ((decide (a.2.2 < p2)) || (decide (a.2.2 > p3)))), tB 0 [lF 1 (List.map (eI .u8) b0_0), iI a.1, .bool true, .sb a.2.1], tB 1 [iI a.2.2]], fun _ => True, fun _ => 0⟩, 1000000)) (An ?_ (fun _ _ => ?_)))
 refine An (fun _ => ?_) (fun g => absurd g (by decide))
 refine An (fun g1 => ?_) (fun g1 => ?_)
 exact jU (An trivial (r1 (An (Eq.symm (oR g1 rfl)) (fr (r4 trivial)))))
 exact jU (An trivial (r1 (An (Eq.symm (oL g1)) (fr (r4 trivial)))))
 refine eN (cD h (fun g2 h => ?_) (fun g2 h => ?_))
 first | cases h | rw [← oJ h]
 exact eN (fr (r4 trivial))
 first | cases h | rw [← oJ h]
 exact (fr (r4 trivial))

theorem c_tape_List_int64__i4 (b0_0 : (List Int)) (b0_1 : Int) (b0_3 : Bool) (r : (Int × Bool × (List Int))) (h : tape_List_int64__i4 b0_0 b0_1 b0_3 = some r) : ContractT Try.prog 80 [.ptr 0 0, .ptr 1 0, .clo 69 [.ptr 0 0] []] [[lF 1 (List.map (eI .u8) b0_0), iI b0_1, .sb true, .sb b0_3], [.nilS]] none (.tup []) [[lF 1 (List.map (eI .u8) b0_0), iI r.1, .sb true, .sb r.2.1], [.own 0]] (some (2, 1, List.map (eI .i64) r.2.2)) := by
 refine C0 Try.func80 Try.call80 3 ?_
 delta tape_List_int64__i4 at h
 refine eN (eX [iI (0:Int)] (An ⟨Int.le_refl 0, rfl⟩ ?_))
 refine eN ?_
 obtain ⟨b, i, h⟩ := bS h
 refine eX [iI (b0_0.length : Int)] (An (lenS (eI .u8) b0_0) ?_)
 refine eX (CK.gen [(0, 0, 4), (7, 0, 1)] none _ _ none) (An (ContractT.wk (c_tape_Tape_Within_i3 (0:Int) (w64 ((b0_0.length : Int) - b0_1)) b0_0 b0_1 b0_3 (0:Int) b i) (r2 (fr (r4 trivial)))) (An rfl (An rfl ?_)))
 refine eN (An (fun g => absurd g (by decide)) (fun _ => ?_))
 refine eN ?_
 replace h : tape_List_int64__i4_l7 b0_0 b.1 b.2.1 ([] : List Int) b.2.2 = some r := h
 delta tape_List_int64__i4_l7 at h
 obtain ⟨n1, h⟩ := loopS h
 refine eX (Sum.inl ⟨(Int × Bool × (List Int) × Int) × Nat, fun q => [tM 0 (.ptr 0 0), tM 1 (.ptr 1 0), tM 2 (.clo 69 [.ptr 0 0] []), tM 6 (.ptr 7 0), tB 0 [lF 1 (List.map (eI .u8) b0_0), iI q.1.1, .bool true, .sb q.1.2.1], tB 1 [.own 1026], tB 7 [iI q.1.2.2.2], (.tok 1026, .tok 2 1 (List.map (eI .i64) q.1.2.2.1))], fun q => loopN (fun (s : (Int × Bool × (List Int) × Int)) => tape_List_int64__i4_l7s b0_0 s.1 s.2.1 s.2.2.1 s.2.2.2) q.2 q.1 = some r, fun q => q.2⟩) (An (eX [(1026, none)] (eX [] (eX ((b.1, b.2.1, ([] : List Int), b.2.2), n1) (An h (r1 (fr (r5 trivial))))))) ?_)
 clear h
 refine fun q h => ?_
 obtain ⟨⟨f, d, e, a⟩, n1⟩ := q
 obtain ⟨m1, x1, hm1, h, hl1, hr1⟩ := loopN_step h
 replace hm1 : n1 = m1 + 1 := hm1
 subst hm1
 replace h : tape_List_int64__i4_l7s b0_0 f d e a = some x1 := h
 delta tape_List_int64__i4_l7s at h
 refine eN (eX (some (⟨Unit, fun _ => [tM 0 (.ptr 0 0), tM 1 (.ptr 1 0), tM 2 (.clo 69 [.ptr 0 0] []), tM 6 (.ptr 7 0), tM 57 (.sb ((decide (a > (0:Int))) && (!d))), tB 0 [lF 1 (List.map (eI .u8) b0_0), iI f, .bool true, .sb d], tB 1 [.own 1026], tB 7 [iI a], (.tok 1026, .tok 2 1 (List.map (eI .i64) e))], fun _ => True, fun _ => 0⟩, 1000000)) (An ?_ (fun _ _ => ?_)))
 refine An (fun g1 => ?_) (fun g1 => ?_)
 exact jU (An trivial (r1 (An (Eq.symm (aR g1 rfl)) (fr (r5 trivial)))))
 exact jU (An trivial (r1 (An (Eq.symm (aL g1)) (fr (r5 trivial)))))
 refine cD h (fun g2 h => ?_) (fun g2 h => ?_)
 refine eN (eN ?_)
 obtain ⟨c, j, h⟩ := bS h
 refine eX (CK.gen [(0, 0, 4), (1000000, 0, 1)] none _ _ none) (An (ContractT.wk (c_tape_Tape_Int_i4 b0_0 f d (0:Int) c j) (fr (r4 trivial))) (An rfl (An rfl ?_)))
 refine eN ?_
 obtain ⟨k, h⟩ := ckS h
 refine An (kA (oD k)) ?_
 exact eN (eX [(1026, some 1000518)] (eX [] (eX ((c.1, c.2.1, (e ++ [c.2.2]), (w64 (a - (1:Int)))), m1) (An (hl1 (c.1, c.2.1, (e ++ [c.2.2]), (w64 (a - (1:Int)))) (oJ h).symm) (An (Nat.lt_succ_self m1) (r1 (fr (r4 (An lE trivial)))))))))
 replace h := popS h hr1
 first | cases h | rw [← oJ h]
 exact (fr (r3 rfl))

theorem c_tape_Tape_Ints_i2 (b0_0 : (List Int)) (b0_1 : Int) (b0_3 : Bool) (r : (Int × Bool × (List Int))) (h : tape_Tape_Ints_i2 b0_0 b0_1 b0_3 = some r) : ContractT Try.prog 71 [.ptr 0 0, .ptr 1 0] [[lF 1 (List.map (eI .u8) b0_0), iI b0_1, .sb true, .sb b0_3], [.nilS]] none (.tup []) [[lF 1 (List.map (eI .u8) b0_0), iI r.1, .sb true, .sb r.2.1], [.own 0]] (some (2, 1, List.map (eI .i64) r.2.2)) := by
 refine C0 Try.func71 Try.call71 3 ?_
 delta tape_Tape_Ints_i2 at h
 refine eN ?_
 obtain ⟨a, b, h⟩ := bS h
 refine eX (CK.gen [(0, 0, 4), (1, 0, 1)] none _ _ _) (An (ContractT.wk (c_tape_List_int64__i4 b0_0 b0_1 b0_3 a b) (fr (r3 trivial))) (An rfl (An rfl ?_)))
 first | cases h | rw [← oJ h]
 exact (fr (r3 rfl))

theorem c_tape_Tape_Word_i2 (b0_0 : (List Int)) (b0_1 : Int) (b0_3 : Bool) (b1 : Int) (r : (Int × Bool × Int)) (h : tape_Tape_Word_i2 b0_0 b0_1 b0_3 b1 = some r) : Contract Try.prog 84 [.ptr 0 0, .ptr 1 0] [[lF 1 (List.map (eI .u8) b0_0), iI b0_1, .sb true, .sb b0_3], [iU b1]] (.tup []) [[lF 1 (List.map (eI .u8) b0_0), iI r.1, .sb true, .sb r.2.1], [iU r.2.2]] := by
 refine C0 Try.func84 Try.call84 3 ?_
 delta tape_Tape_Word_i2 at h
 refine eN (eN ?_)
 obtain ⟨a, b, h⟩ := bS h
 refine eX (CK.gen [(0, 0, 4), (7, 0, 1)] none _ _ none) (An (ContractT.wk (c_tape_Tape_Int_i4 b0_0 b0_1 b0_3 (w64 b1) a b) (fr (r4 trivial))) (An rfl (An rfl ?_)))
 first | cases h | rw [← oJ h]
 exact eN (fr (r4 trivial))

theorem c_tape_Tape_Wide_i1 (b0_0 : (List Int)) (b0_1 : Int) (b0_3 : Bool) (b1 : api_Wide) (r : (Int × Bool × api_Wide)) (h : tape_Tape_Wide_i1 b0_0 b0_1 b0_3 b1 = some r) : Contract Try.prog 76 [.ptr 0 0, .ptr 1 0] [[lF 1 (List.map (eI .u8) b0_0), iI b0_1, .sb true, .sb b0_3], [iU b1.Hi, iU b1.Lo]] (.tup []) [[lF 1 (List.map (eI .u8) b0_0), iI r.1, .sb true, .sb r.2.1], [iU r.2.2.Hi, iU r.2.2.Lo]] := by
 refine C0 Try.func76 Try.call76 3 ?_
 delta tape_Tape_Wide_i1 at h
 refine eN ?_
 obtain ⟨a, b, h⟩ := bS h
 refine eX (CK.gen [(0, 0, 4), (1, 0, 1)] none _ _ none) (An (ContractT.wk (c_tape_Tape_Word_i2 b0_0 b0_1 b0_3 b1.Hi a b) (fr (r4 trivial))) (An rfl (An rfl ?_)))
 refine eN ?_
 obtain ⟨c, d, h⟩ := bS h
 refine eX (CK.gen [(0, 0, 4), (1, 1, 1)] none _ _ none) (An (ContractT.wk (c_tape_Tape_Word_i2 b0_0 a.1 a.2.1 b1.Lo c d) (fr (r4 trivial))) (An rfl (An rfl ?_)))
 first | cases h | rw [← oJ h]
 exact (fr (r5 trivial))

theorem c_tape_Tape_Text_1_i2 (b0 : Int) (b2_0 : (List Int)) (b2_1 : Int) (b2_3 : Bool) (r : (Int × Int × Bool)) (h : tape_Tape_Text_1_i2 b0 b2_0 b2_1 b2_3 = some r) : Contract Try.prog 82 [.ptr 0 0, .ptr 1 0] [[.int .u8 b0], [.ptr 2 0], [lF 1 (List.map (eI .u8) b2_0), iI b2_1, .sb true, .sb b2_3]] (.tup []) [[.int .u8 r.1], [.ptr 2 0], [lF 1 (List.map (eI .u8) b2_0), iI r.2.1, .sb true, .sb r.2.2]] := by
 refine C0 Try.func82 Try.call82 4 ?_
 delta tape_Tape_Text_1_i2 at h
 refine eN (eN ?_)
 obtain ⟨a, b, h⟩ := bS h
 refine eX (CK.gen [(2, 0, 4), (8, 0, 1)] none _ _ none) (An (ContractT.wk (c_tape_Tape_Within_i3 (0:Int) (255:Int) b2_0 b2_1 b2_3 (w64 b0) a b) (r2 (fr (r4 trivial)))) (An rfl (An rfl ?_)))
 first | cases h | rw [← oJ h]
 exact eN (r1 (fr (r3 trivial)))

theorem c_tape_List_byte__i4 (b0_0 : (List Int)) (b0_1 : Int) (b0_3 : Bool) (r : (Int × Bool × (List Int))) (h : tape_List_byte__i4 b0_0 b0_1 b0_3 = some r) : ContractT Try.prog 81 [.ptr 0 0, .ptr 1 0, .clo 82 [] [.ptr 2 0]] [[lF 1 (List.map (eI .u8) b0_0), iI b0_1, .sb true, .sb b0_3], [.nilS], [.ptr 0 0]] none (.tup []) [[lF 1 (List.map (eI .u8) b0_0), iI r.1, .sb true, .sb r.2.1], [.own 0], [.ptr 0 0]] (some (5, 1, List.map (eI .u8) r.2.2)) := by
 refine C0 Try.func81 Try.call81 4 ?_
 delta tape_List_byte__i4 at h
 refine eN (eX [iI (0:Int)] (An ⟨Int.le_refl 0, rfl⟩ ?_))
 refine eN ?_
 obtain ⟨b, i, h⟩ := bS h
 refine eX [iI (b0_0.length : Int)] (An (lenS (eI .u8) b0_0) ?_)
 refine eX (CK.gen [(0, 0, 4), (8, 0, 1)] none _ _ none) (An (ContractT.wk (c_tape_Tape_Within_i3 (0:Int) (w64 ((b0_0.length : Int) - b0_1)) b0_0 b0_1 b0_3 (0:Int) b i) (r2 (fr (r4 trivial)))) (An rfl (An rfl ?_)))
 refine eN (An (fun g => absurd g (by decide)) (fun _ => ?_))
 refine eN ?_
 replace h : tape_List_byte__i4_l7 b0_0 b.1 b.2.1 ([] : List Int) b.2.2 = some r := h
 delta tape_List_byte__i4_l7 at h
 obtain ⟨n1, h⟩ := loopS h
 refine eX (Sum.inl ⟨(Int × Bool × (List Int) × Int) × Nat, fun q => [tM 0 (.ptr 0 0), tM 1 (.ptr 1 0), tM 2 (.clo 82 [] [.ptr 2 0]), tM 6 (.ptr 8 0), tB 0 [lF 1 (List.map (eI .u8) b0_0), iI q.1.1, .bool true, .sb q.1.2.1], tB 1 [.own 1027], tB 2 [.ptr 0 0], tB 8 [iI q.1.2.2.2], (.tok 1027, .tok 5 1 (List.map (eI .u8) q.1.2.2.1))], fun q => loopN (fun (s : (Int × Bool × (List Int) × Int)) => tape_List_byte__i4_l7s b0_0 s.1 s.2.1 s.2.2.1 s.2.2.2) q.2 q.1 = some r, fun q => q.2⟩) (An (eX [(1027, none)] (eX [] (eX ((b.1, b.2.1, ([] : List Int), b.2.2), n1) (An h (r1 (fr (r5 trivial))))))) ?_)
 clear h
 refine fun q h => ?_
 obtain ⟨⟨f, d, e, a⟩, n1⟩ := q
 obtain ⟨m1, x1, hm1, h, hl1, hr1⟩ := loopN_step h
 replace hm1 : n1 = m1 + 1 := hm1
 subst hm1
 replace h : tape_List_byte__i4_l7s b0_0 f d e a = some x1 := h
 delta tape_List_byte__i4_l7s at h
 refine eN (eX (some (⟨Unit, fun _ => [tM 0 (.ptr 0 0), tM 1 (.ptr 1 0), tM 2 (.clo 82 [] [.ptr 2 0]), tM 6 (.ptr 8 0), tM 57 (.sb ((decide (a > (0:Int))) && (!d))), tB 0 [lF 1 (List.map (eI .u8) b0_0), iI f, .bool true, .sb d], tB 1 [.own 1027], tB 2 [.ptr 0 0], tB 8 [iI a], (.tok 1027, .tok 5 1 (List.map (eI .u8) e))], fun _ => True, fun _ => 0⟩, 1000000)) (An ?_ (fun _ _ => ?_)))
 refine An (fun g1 => ?_) (fun g1 => ?_)
 exact jU (An trivial (r1 (An (Eq.symm (aR g1 rfl)) (fr (r5 trivial)))))
 exact jU (An trivial (r1 (An (Eq.symm (aL g1)) (fr (r5 trivial)))))
 refine cD h (fun g2 h => ?_) (fun g2 h => ?_)
 refine eN (eN ?_)
 obtain ⟨c, j, h⟩ := bS h
 refine eX (CK.gen [(1000000, 0, 1), (2, 0, 1), (0, 0, 4)] none _ _ none) (An (ContractT.wk (c_tape_Tape_Text_1_i2 (0:Int) b0_0 f d c j) (r1 (fr (r3 trivial)))) (An rfl (An rfl ?_)))
 refine eN ?_
 obtain ⟨k, h⟩ := ckS h
 refine An (kA (oD k)) ?_
 exact eN (eX [(1027, some 1000518)] (eX [] (eX ((c.2.1, c.2.2, (e ++ [c.1]), (w64 (a - (1:Int)))), m1) (An (hl1 (c.2.1, c.2.2, (e ++ [c.1]), (w64 (a - (1:Int)))) (oJ h).symm) (An (Nat.lt_succ_self m1) (r1 (fr (r4 (An lE trivial)))))))))
 replace h := popS h hr1
 first | cases h | rw [← oJ h]
 exact (fr (r3 rfl))

theorem c_tape_Tape_Text_i2 (b0_0 : (List Int)) (b0_1 : Int) (b0_3 : Bool) (r : (Int × Bool × (List Int))) (h : tape_Tape_Text_i2 b0_0 b0_1 b0_3 = some r) : ContractT Try.prog 72 [.ptr 0 0, .ptr 1 0] [[lF 1 (List.map (eI .u8) b0_0), iI b0_1, .sb true, .sb b0_3], [.nilS]] none (.tup []) [[lF 1 (List.map (eI .u8) b0_0), iI r.1, .sb true, .sb r.2.1], [.own 0]] (some (5, 1, List.map (eI .u8) r.2.2)) := by
 refine C0 Try.func72 Try.call72 3 ?_
 delta tape_Tape_Text_i2 at h
 refine eN (eN ?_)
 obtain ⟨a, b, h⟩ := bS h
 refine eX (CK.gen [(0, 0, 4), (1, 0, 1), (3, 0, 1)] none _ _ _) (An (ContractT.wk (c_tape_List_byte__i4 b0_0 b0_1 b0_3 a b) (fr (r3 trivial))) (An rfl (An rfl ?_)))
 first | cases h | rw [← oJ h]
 exact (fr (r3 rfl))

theorem c_codec_reply_i1 (b0_0 : (List Int)) (b0_1 : Int) (b0_3 : Bool) (b1_0 : Int) (b1_1 : Int) (b1_2 : Int) (b1_3 : Int) (b1_4 : Int) (b1_5 : Int) (b1_6 : Int) (b1_8 : Int) (b1_9 : Int) (b1_10 : Int) (b1_11 : Int) (r : (Int × Bool × Int × Int × Int × Int × Int × Int × Int × Int × Int × Int × Int × (List Int) × (List Int) × (List Int))) (h : codec_reply_i1 b0_0 b0_1 b0_3 b1_0 b1_1 b1_2 b1_3 b1_4 b1_5 b1_6 b1_8 b1_9 b1_10 b1_11 = some r) : ContractT Try.prog 59 [.ptr 0 0, .ptr 1 0] [[lF 1 (List.map (eI .u8) b0_0), iI b0_1, .sb true, .sb b0_3], [iI b1_0, iI b1_1, iI b1_2, iI b1_3, iI b1_4, iI b1_5, iI b1_6, .nilS, iU b1_8, iU b1_9, iU b1_10, iU b1_11, .nilS, .nilS]] none (.tup []) [[lF 1 (List.map (eI .u8) b0_0), iI r.1, .sb true, .sb r.2.1], [iI r.2.2.1, iI r.2.2.2.1, iI r.2.2.2.2.1, iI r.2.2.2.2.2.1, iI r.2.2.2.2.2.2.1, iI r.2.2.2.2.2.2.2.1, iI r.2.2.2.2.2.2.2.2.1, .own 0, iU r.2.2.2.2.2.2.2.2.2.1, iU r.2.2.2.2.2.2.2.2.2.2.1, iU r.2.2.2.2.2.2.2.2.2.2.2.1, iU r.2.2.2.2.2.2.2.2.2.2.2.2.1, lF 1 (List.map (eI .i64) r.2.2.2.2.2.2.2.2.2.2.2.2.2.1), lF 1 (List.map (eI .u8) r.2.2.2.2.2.2.2.2.2.2.2.2.2.2.1)]] (some (2, 1, List.map (eI .i64) r.2.2.2.2.2.2.2.2.2.2.2.2.2.2.2)) := by
 refine C0 Try.func59 Try.call59 3 ?_
 delta codec_reply_i1 at h
 refine eN (eN ?_)
 obtain ⟨a, l, h⟩ := bS h
 refine eX (CK.gen [(0, 0, 4), (7, 0, 1)] none _ _ none) (An (ContractT.wk (c_tape_Tape_Small_i4 b0_0 b0_1 b0_3 b1_0 a l) (fr (r4 trivial))) (An rfl (An rfl ?_)))
 refine eN (eN ?_)
 obtain ⟨b, m, h⟩ := bS h
 refine eX (CK.gen [(0, 0, 4), (1, 1, 2)] none _ _ none) (An (ContractT.wk (c_tape_Tape_Ratio_i1 b0_0 a.1 a.2.1 (api_Ratio.mk b1_1 b1_2) b m) (fr (r5 trivial))) (An rfl (An rfl ?_)))
 refine eN ?_
 obtain ⟨c, n, h⟩ := bS h
 refine eX (CK.gen [(0, 0, 4), (1, 3, 2)] none _ _ none) (An (ContractT.wk (c_tape_Tape_Ratio_i1 b0_0 b.1 b.2.1 (api_Ratio.mk b1_3 b1_4) c n) (fr (r5 trivial))) (An rfl (An rfl ?_)))
 refine eN ?_
 obtain ⟨d, o, h⟩ := bS h
 refine eX (CK.gen [(0, 0, 4), (1, 5, 2)] none _ _ none) (An (ContractT.wk (c_tape_Tape_Ratio_i1 b0_0 c.1 c.2.1 (api_Ratio.mk b1_5 b1_6) d o) (fr (r5 trivial))) (An rfl (An rfl ?_)))
 refine eN ?_
 obtain ⟨e, p, h⟩ := bS h
 refine eX (CK.gen [(0, 0, 4), (1, 7, 1)] none _ _ _) (An (ContractT.wk (c_tape_Tape_Ints_i2 b0_0 d.1 d.2.1 e p) (fr (r3 trivial))) (An rfl (An rfl ?_)))
 refine eN ?_
 obtain ⟨f, q, h⟩ := bS h
 refine eX (CK.gen [(0, 0, 4), (1, 8, 2)] none _ _ none) (An (ContractT.wk (c_tape_Tape_Wide_i1 b0_0 e.1 e.2.1 (api_Wide.mk b1_8 b1_9) f q) (fr (r5 trivial))) (An rfl (An rfl ?_)))
 refine eN ?_
 obtain ⟨g, s, h⟩ := bS h
 refine eX (CK.gen [(0, 0, 4), (1, 10, 2)] none _ _ none) (An (ContractT.wk (c_tape_Tape_Wide_i1 b0_0 f.1 f.2.1 (api_Wide.mk b1_10 b1_11) g s) (fr (r5 trivial))) (An rfl (An rfl ?_)))
 refine eN ?_
 obtain ⟨i, t, h⟩ := bS h
 refine eX (CK.gen [(0, 0, 4), (1, 12, 1)] none _ _ _) (An (ContractT.wk (c_tape_Tape_Ints_i2 b0_0 g.1 g.2.1 i t) (fr (r3 trivial))) (An rfl (An rfl ?_)))
 refine eN ?_
 obtain ⟨j, k, h⟩ := bS h
 refine eX (CK.gen [(0, 0, 4), (1, 13, 1)] none _ _ _) (An (ContractT.wk (c_tape_Tape_Text_i2 b0_0 i.1 i.2.1 j k) (fr (r3 trivial))) (An rfl (An rfl ?_)))
 first | cases h | rw [← oJ h]
 exact (fr (r12 (r2 (fr (fr rfl)))))

theorem c_codec_DecodeReply (p0 : (List Int)) (r : (api_Reply × Int)) (h : codec_DecodeReply p0 = some r) : Contract Try.prog 40 [lF 1 (List.map (eI .u8) p0)] [] (.tup [.agg (enc_api_Reply r.1), iI r.2]) [] := by
 refine C0 Try.func40 Try.call40 1 ?_
 delta codec_DecodeReply at h
 refine eN (eN (eN (eX [iI (p0.length : Int)] (An (lenS (eI .u8) p0) ?_))))
 refine eN ?_
 obtain ⟨a, b, h⟩ := bS h
 refine eX (CK.gen [(518, 0, 4), (257, 0, 14)] none _ _ _) (An (ContractT.wk (c_codec_reply_i1 p0 (0:Int) (decide ((p0.length : Int) > (1048576:Int))) (0:Int) (0:Int) (0:Int) (0:Int) (0:Int) (0:Int) (0:Int) (0:Int) (0:Int) (0:Int) (0:Int) a b) (fr (r12 (r2 trivial)))) (An rfl (An rfl ?_)))
 refine eN (eN (An (fun g1 => ?_) (fun g1 => ?_)))
 refine eX [iI (p0.length : Int)] (An (lenS (eI .u8) p0) ?_)
 refine An (fun g2 => ?_) (fun g2 => ?_)
 replace h := cT (oR g1 g2) h
 first | cases h | rw [← oJ h]
 exact eN (r12 (r3 trivial))
 replace h := cF (oR g1 g2) h
 first | cases h | rw [← oJ h]
 exact eN (r7 (fr (r4 (fr (fr (r1 trivial))))))
 replace h := cT (oL g1) h
 first | cases h | rw [← oJ h]
 exact eN (r12 (r3 trivial))

theorem c_script_Replies (p0 : (List Int)) (r : ((List api_Reply) × Int)) (h : script_Replies p0 = some r) : Contract Try.prog 16 [lF 1 (List.map (eI .u8) p0)] [] (.tup [lF 14 (List.map enc_api_Reply r.1), iI r.2]) [] := by
 refine C0 Try.func16 Try.call16 1 ?_
 delta script_Replies at h
 refine eN (eN ?_)
 obtain ⟨a, g, h⟩ := bS h
 refine cK (An (cW (c_script_Split p0 a g) (fr trivial)) (r1 ?_))
 refine eN (eX [iI (a.2.length : Int)] (An (lenS (eI .u8) a.2) ?_))
 refine cD h (fun g1 h => ?_) (fun g1 h => ?_)
 first | cases h | rw [← oJ h]
 exact eN (r2 trivial)
 refine eN (eN (eX [iI (a.1.length : Int)] (An (lenS (eL 1 (eI .u8)) a.1) ?_)))
 replace h : script_Replies_l3 a ([] : List api_Reply) (0:Int) = some r := h
 delta script_Replies_l3 at h
 obtain ⟨n1, h⟩ := loopS h
 refine eX (Sum.inl ⟨((List api_Reply) × Int) × Nat, fun q => [tM 6 (.own 1280), tM 19 (lF 1 (List.map (eL 1 (eI .u8)) a.1)), tM 20 (iI (a.1.length : Int)), tM 21 (iI q.1.2), (.tok 1280, .tok 60 14 (List.map enc_api_Reply q.1.1))], fun q => loopN (fun (s : ((List api_Reply) × Int)) => script_Replies_l3s a s.1 s.2) q.2 q.1 = some r, fun q => q.2⟩) (An (eX [(1280, none)] (eX [] (eX ((([] : List api_Reply), (0:Int)), n1) (An h (r1 (fr (r3 trivial))))))) ?_)
 clear h
 refine fun q h => ?_
 obtain ⟨⟨c, b⟩, n1⟩ := q
 obtain ⟨m1, x1, hm1, h, hl1, hr1⟩ := loopN_step h
 replace hm1 : n1 = m1 + 1 := hm1
 subst hm1
 replace h : script_Replies_l3s a c b = some x1 := h
 delta script_Replies_l3s at h
 refine eN (cD h (fun g2 h => ?_) (fun g2 h => ?_))
 refine eN ?_
 obtain ⟨e, i, h⟩ := bS h
 refine eX [lF 1 (List.map (eI .u8) e)] (An (idx_map (eL 1 (eI .u8)) i) ?_)
 refine eN ?_
 obtain ⟨d, j, h⟩ := bS h
 refine cK (An (cW (c_codec_DecodeReply e d j) (fr trivial)) (r1 ?_))
 refine eN (cD h (fun g3 h => ?_) (fun g3 h => ?_))
 cases retS h hr1
 exact eN (r2 trivial)
 refine eN ?_
 obtain ⟨f, h⟩ := ckS h
 refine An (kA (oD f)) ?_
 exact eN (eX [(1280, some 2308)] (eX [] (eX (((c ++ [d.1]), (w64 (b + (1:Int)))), m1) (An (hl1 ((c ++ [d.1]), (w64 (b + (1:Int)))) (oJ h).symm) (An (Nat.lt_succ_self m1) (r1 (fr (r2 (An lE trivial)))))))))
 replace h := popS h hr1
 first | cases h | rw [← oJ h]
 exact eN (fr (r1 trivial))

theorem c_ref27_Cursor_ratio (p0 : ref27_Cursor) (r : (api_Ratio × ref27_Cursor)) (h : ref27_Cursor_ratio p0 = some r) : Contract Try.prog 60 [.ptr 0 0] [[lF 1 (List.map (eI .i64) p0.L), iI p0.At, .sb p0.Bad]] (.agg [iI r.1.Num, iI r.1.Den]) [[lF 1 (List.map (eI .i64) r.2.L), iI r.2.At, .sb r.2.Bad]] := by
 refine C0 Try.func60 Try.call60 2 ?_
 delta ref27_Cursor_ratio at h
 refine eN (eN ?_)
 obtain ⟨a, b, h⟩ := bS h
 refine eX (CK.gen [(0, 0, 3)] none _ _ none) (An (ContractT.wk (c_ref27_Cursor_Take p0 a b) (fr (r2 trivial))) (An rfl (An rfl ?_)))
 refine eN ?_
 obtain ⟨c, d, h⟩ := bS h
 refine eX (CK.gen [(0, 0, 3)] none _ _ none) (An (ContractT.wk (c_ref27_Cursor_Take a.2 c d) (fr (r2 trivial))) (An rfl (An rfl ?_)))
 first | cases h | rw [← oJ h]
 exact (r2 (fr (r2 trivial)))

theorem c_ref27_Cursor_Wide (p0 : ref27_Cursor) (r : (api_Wide × ref27_Cursor)) (h : ref27_Cursor_Wide p0 = some r) : Contract Try.prog 61 [.ptr 0 0] [[lF 1 (List.map (eI .i64) p0.L), iI p0.At, .sb p0.Bad]] (.agg [iU r.1.Hi, iU r.1.Lo]) [[lF 1 (List.map (eI .i64) r.2.L), iI r.2.At, .sb r.2.Bad]] := by
 refine C0 Try.func61 Try.call61 2 ?_
 delta ref27_Cursor_Wide at h
 refine eN (eN ?_)
 obtain ⟨a, b, h⟩ := bS h
 refine eX (CK.gen [(0, 0, 3)] none _ _ none) (An (ContractT.wk (c_ref27_Cursor_Take p0 a b) (fr (r2 trivial))) (An rfl (An rfl ?_)))
 refine eN ?_
 obtain ⟨c, d, h⟩ := bS h
 refine eX (CK.gen [(0, 0, 3)] none _ _ none) (An (ContractT.wk (c_ref27_Cursor_Take a.2 c d) (fr (r2 trivial))) (An rfl (An rfl ?_)))
 first | cases h | rw [← oJ h]
 exact (r2 (fr (r2 trivial)))

theorem c_ref27_DecodeReply (p0 : (List Int)) (r : (api_Reply × Int)) (h : ref27_DecodeReply p0 = some r) : Contract Try.prog 41 [lF 1 (List.map (eI .u8) p0)] [] (.tup [.agg (enc_api_Reply r.1), iI r.2]) [] := by
 refine C0 Try.func41 Try.call41 1 ?_
 delta ref27_DecodeReply at h
 refine eN (eN ?_)
 obtain ⟨e, f, h⟩ := bS h
 rcases forkS h with ⟨hz1_1, h⟩ | ⟨z1_1, hz1_1, h⟩
 refine cK (An (cW (c_ref27_open_n p0 e f hz1_1) (fr trivial)) (r1 ?_))
 refine eN (An (fun g1 => ?_) (fun g1 => ?_))
 replace h := cT g1 h
 first | cases h | rw [← oJ h]
 exact eN (r12 (r3 trivial))
 replace h := cF g1 h
 refine eN ?_
 cases h
 refine cK (An (cW (c_ref27_open_b p0 e z1_1 f hz1_1) (fr trivial)) (r1 ?_))
 refine eN (An (fun g1 => ?_) (fun g1 => ?_))
 replace h := cT g1 h
 first | cases h | rw [← oJ h]
 exact eN (r12 (r3 trivial))
 replace h := cF g1 h
 refine eN (eN ?_)
 obtain ⟨g, q, h⟩ := bS h
 refine eX (CK.gen [(258, 0, 3)] none _ _ none) (An (ContractT.wk (c_ref27_Cursor_Take z1_1 g q) (fr (r2 trivial))) (An rfl (An rfl ?_)))
 refine eN ?_
 obtain ⟨i, s, h⟩ := bS h
 refine eX (CK.gen [(258, 0, 3)] none _ _ none) (An (ContractT.wk (c_ref27_Cursor_ratio g.2 i s) (fr (r2 trivial))) (An rfl (An rfl ?_)))
 refine eN ?_
 obtain ⟨j, t, h⟩ := bS h
 refine eX (CK.gen [(258, 0, 3)] none _ _ none) (An (ContractT.wk (c_ref27_Cursor_ratio i.2 j t) (fr (r2 trivial))) (An rfl (An rfl ?_)))
 refine eN ?_
 obtain ⟨k, u, h⟩ := bS h
 refine eX (CK.gen [(258, 0, 3)] none _ _ none) (An (ContractT.wk (c_ref27_Cursor_ratio j.2 k u) (fr (r2 trivial))) (An rfl (An rfl ?_)))
 refine eN ?_
 obtain ⟨l, v, h⟩ := bS h
 refine eX (CK.gen [(258, 0, 3)] none _ _ none) (An (ContractT.wk (c_ref27_Cursor_List k.2 l v) (fr (r2 trivial))) (An rfl (An rfl ?_)))
 refine eN ?_
 obtain ⟨b, m, h⟩ := bS h
 refine eX (CK.gen [(258, 0, 3)] none _ _ none) (An (ContractT.wk (c_ref27_Cursor_Wide l.2 b m) (fr (r2 trivial))) (An rfl (An rfl ?_)))
 refine eN ?_
 obtain ⟨c, n, h⟩ := bS h
 refine eX (CK.gen [(258, 0, 3)] none _ _ none) (An (ContractT.wk (c_ref27_Cursor_Wide b.2 c n) (fr (r2 trivial))) (An rfl (An rfl ?_)))
 refine eN ?_
 obtain ⟨d, o, h⟩ := bS h
 refine eX (CK.gen [(258, 0, 3)] none _ _ none) (An (ContractT.wk (c_ref27_Cursor_List c.2 d o) (fr (r2 trivial))) (An rfl (An rfl ?_)))
 refine eN ?_
 obtain ⟨a, p, h⟩ := bS h
 refine eX (CK.gen [(258, 0, 3)] none _ _ none) (An (ContractT.wk (c_ref27_Cursor_Bytes d.2 a p) (fr (r2 trivial))) (An rfl (An rfl ?_)))
 refine eN (eN (An (fun g2 => ?_) (fun g2 => ?_)))
 refine eX [iI (a.2.L.length : Int)] (An (lenS (eI .i64) a.2.L) ?_)
 refine An (fun g3 => ?_) (fun g3 => ?_)
 replace h := cT (oR g2 g3) h
 first | cases h | rw [← oJ h]
 exact eN (r12 (r3 trivial))
 replace h := cF (oR g2 g3) h
 first | cases h | rw [← oJ h]
 exact eN (r7 (fr (r4 (fr (fr (r1 trivial))))))
 replace h := cT (oL g2) h
 first | cases h | rw [← oJ h]
 exact eN (r12 (r3 trivial))

theorem c_ref30_Replies (p0 : (List Int)) (r : ((List api_Reply) × Int)) (h : ref30_Replies p0 = some r) : Contract Try.prog 17 [lF 1 (List.map (eI .u8) p0)] [] (.tup [lF 14 (List.map enc_api_Reply r.1), iI r.2]) [] := by
 refine C0 Try.func17 Try.call17 1 ?_
 delta ref30_Replies at h
 refine eN (eN ?_)
 obtain ⟨a, g, h⟩ := bS h
 refine cK (An (cW (c_ref30_Split p0 a g) (fr trivial)) (r1 ?_))
 refine eN (eX [iI (a.2.length : Int)] (An (lenS (eI .u8) a.2) ?_))
 refine cD h (fun g1 h => ?_) (fun g1 h => ?_)
 first | cases h | rw [← oJ h]
 exact eN (r2 trivial)
 refine eN (eN (eX [iI (a.1.length : Int)] (An (lenS (eL 1 (eI .u8)) a.1) ?_)))
 replace h : ref30_Replies_l3 a ([] : List api_Reply) (0:Int) = some r := h
 delta ref30_Replies_l3 at h
 obtain ⟨n1, h⟩ := loopS h
 refine eX (Sum.inl ⟨((List api_Reply) × Int) × Nat, fun q => [tM 6 (.own 1280), tM 19 (lF 1 (List.map (eL 1 (eI .u8)) a.1)), tM 20 (iI (a.1.length : Int)), tM 21 (iI q.1.2), (.tok 1280, .tok 60 14 (List.map enc_api_Reply q.1.1))], fun q => loopN (fun (s : ((List api_Reply) × Int)) => ref30_Replies_l3s a s.1 s.2) q.2 q.1 = some r, fun q => q.2⟩) (An (eX [(1280, none)] (eX [] (eX ((([] : List api_Reply), (0:Int)), n1) (An h (r1 (fr (r3 trivial))))))) ?_)
 clear h
 refine fun q h => ?_
 obtain ⟨⟨c, b⟩, n1⟩ := q
 obtain ⟨m1, x1, hm1, h, hl1, hr1⟩ := loopN_step h
 replace hm1 : n1 = m1 + 1 := hm1
 subst hm1
 replace h : ref30_Replies_l3s a c b = some x1 := h
 delta ref30_Replies_l3s at h
 refine eN (cD h (fun g2 h => ?_) (fun g2 h => ?_))
 refine eN ?_
 obtain ⟨e, i, h⟩ := bS h
 refine eX [lF 1 (List.map (eI .u8) e)] (An (idx_map (eL 1 (eI .u8)) i) ?_)
 refine eN ?_
 obtain ⟨d, j, h⟩ := bS h
 refine cK (An (cW (c_ref27_DecodeReply e d j) (fr trivial)) (r1 ?_))
 refine eN (cD h (fun g3 h => ?_) (fun g3 h => ?_))
 cases retS h hr1
 exact eN (r2 trivial)
 refine eN ?_
 obtain ⟨f, h⟩ := ckS h
 refine An (kA (oD f)) ?_
 exact eN (eX [(1280, some 2308)] (eX [] (eX (((c ++ [d.1]), (w64 (b + (1:Int)))), m1) (An (hl1 ((c ++ [d.1]), (w64 (b + (1:Int)))) (oJ h).symm) (An (Nat.lt_succ_self m1) (r1 (fr (r2 (An lE trivial)))))))))
 replace h := popS h hr1
 first | cases h | rw [← oJ h]
 exact eN (fr (r1 trivial))

theorem c_ref27_Reply (p0 : api_Reply) (r : (List Int)) (h : ref27_Reply p0 = some r) : Contract Try.prog 42 [.agg (enc_api_Reply p0)] [] (lF 1 (List.map (eI .i64) r)) [] := by
 refine C0 Try.func42 Try.call42 1 ?_
 delta ref27_Reply at h
 refine eN (eN (eN (eN ?_)))
 obtain ⟨b, c, h⟩ := bS h
 obtain ⟨d, h⟩ := ckS h
 refine cK (An (cW (c_ref27_List p0.Answer.Values b c) (fr trivial)) (r1 ?_))
 refine An (kA (oD d)) ?_
 refine eN ?_
 obtain ⟨a, h⟩ := ckS h
 refine An (kA (oD a)) ?_
 refine eN ?_
 obtain ⟨e, f, h⟩ := bS h
 obtain ⟨g, h⟩ := ckS h
 obtain ⟨i, j, h⟩ := bS h
 obtain ⟨k, h⟩ := ckS h
 refine cK (An (cW (c_ref27_List p0.IDs e f) (fr trivial)) (r1 ?_))
 refine An (kA (oD g)) ?_
 refine cK (An (cW (c_ref27_Bytes p0.Bytes i j) (fr trivial)) (r1 ?_))
 refine An (kA (oD k)) ?_
 first | cases h | rw [← oJ h]
 exact (An ff (An lE trivial))

theorem c_ref27_SameReply (p0 : api_Reply) (p1 : api_Reply) (r : Bool) (h : ref27_SameReply p0 p1 = some r) : Contract Try.prog 18 [.agg (enc_api_Reply p0), .agg (enc_api_Reply p1)] [] (.sb r) [] := by
 refine C0 Try.func18 Try.call18 1 ?_
 delta ref27_SameReply at h
 refine eN (eN ?_)
 obtain ⟨a, c, h⟩ := bS h
 obtain ⟨b, d, h⟩ := bS h
 obtain ⟨e, f, h⟩ := bS h
 refine cK (An (cW (c_ref27_Reply p0 a c) (r7 (fr (r4 (fr (fr trivial)))))) (r1 ?_))
 refine cK (An (cW (c_ref27_Reply p1 b d) (r7 (fr (r4 (fr (fr trivial)))))) (r1 ?_))
 refine cK (An (cW (c_ref09_SameNumbers a b e f) (fr (fr trivial))) (r1 ?_))
 first | cases h | rw [← oJ h]
 exact (r1 trivial)

theorem c_law30_ScriptReplies (p0 : (List Int)) (r : Bool) (h : law30_ScriptReplies p0 = some r) : Contract Try.prog 5 [lF 1 (List.map (eI .u8) p0)] [] (.sb r) [] := by
 refine C0 Try.func5 Try.call5 1 ?_
 delta law30_ScriptReplies at h
 refine eN (eN (eX [iI (p0.length : Int)] (An (lenS (eI .u8) p0) ?_)))
 refine cD h (fun g1 h => ?_) (fun g1 h => ?_)
 refine eN ?_
 obtain ⟨m, n, h⟩ := bS h
 refine cK (An (cW (c_law30_awake m n) trivial) (r1 ?_))
 first | cases h | rw [← oJ h]
 exact (r1 trivial)
 refine eN ?_
 obtain ⟨a, o, h⟩ := bS h
 refine cK (An (cW (c_script_Replies p0 a o) (fr trivial)) (r1 ?_))
 refine eN ?_
 obtain ⟨b, p, h⟩ := bS h
 refine cK (An (cW (c_ref30_Replies p0 b p) (fr trivial)) (r1 ?_))
 refine eN (eN (An (fun g2 => ?_) (fun g2 => ?_)))
 refine eX [iI (a.1.length : Int)] (An (lenS enc_api_Reply a.1) ?_)
 refine eX [iI (b.1.length : Int)] (An (lenS enc_api_Reply b.1) ?_)
 refine An (fun g3 => ?_) (fun g3 => ?_)
 replace h := cT (oR g2 g3) h
 first | cases h | rw [← oJ h]
 exact eN (r1 trivial)
 replace h := cF (oR g2 g3) h
 refine eN (eX [iI (a.1.length : Int)] (An (lenS enc_api_Reply a.1) ?_))
 replace h : law30_ScriptReplies_l4 a b (0:Int) = some r := h
 delta law30_ScriptReplies_l4 at h
 obtain ⟨n1, h⟩ := loopS h
 refine eX (Sum.inl ⟨Int × Nat, fun q => [tM 3 (lF 14 (List.map enc_api_Reply a.1)), tM 5 (lF 14 (List.map enc_api_Reply b.1)), tM 33 (iI (a.1.length : Int)), tM 34 (iI q.1)], fun q => loopN (fun (s : Int) => law30_ScriptReplies_l4s a b s) q.2 q.1 = some r, fun q => q.2⟩) (An (eX [] (eX [] (eX ((0:Int), n1) (An h (r1 (fr (fr (r2 trivial)))))))) ?_)
 clear h
 refine fun q h => ?_
 obtain ⟨e, n1⟩ := q
 obtain ⟨m1, x1, hm1, h, hl1, hr1⟩ := loopN_step h
 replace hm1 : n1 = m1 + 1 := hm1
 subst hm1
 replace h : law30_ScriptReplies_l4s a b e = some x1 := h
 delta law30_ScriptReplies_l4s at h
 refine eN (cD h (fun g4 h => ?_) (fun g4 h => ?_))
 refine eN (eN ?_)
 obtain ⟨c, f, h⟩ := bS h
 obtain ⟨d, g, h⟩ := bS h
 obtain ⟨i, j, h⟩ := bS h
 refine eX (enc_api_Reply c) (An (idx_map enc_api_Reply f) ?_)
 refine eX (enc_api_Reply d) (An (idx_map enc_api_Reply g) ?_)
 refine cK (An (cW (c_ref27_SameReply c d i j) (r7 (fr (r4 (fr (fr (r7 (fr (r4 (fr (fr trivial))))))))))) (r1 ?_))
 refine cD h (fun g5 h => ?_) (fun g5 h => ?_)
 cases retS h hr1
 exact eN (r1 trivial)
 exact eN (jT (_, m1) (An (hl1 _ (oJ h).symm) (An (jL m1) (r1 (fr (fr (r2 trivial)))))))
 replace h := popS h hr1
 refine eN ?_
 obtain ⟨k, l, h⟩ := bS h
 refine cK (An (cW (c_law30_awake k l) trivial) (r1 ?_))
 first | cases h | rw [← oJ h]
 exact (r1 trivial)
 replace h := cT (oL g2) h
 first | cases h | rw [← oJ h]
 exact eN (r1 trivial)

end Go.Proofs.Ytmipeaidieflmaa
