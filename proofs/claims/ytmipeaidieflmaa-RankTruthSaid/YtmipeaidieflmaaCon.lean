/- The contracts: each function of the program does what its function on plain data says. Made by program. -/
import Derived.Test.YtmipeaidieflmaaTab
import Derived.Test.YtmipeaidieflmaaWin
import Derived.Test.YtmipeaidieflmaaVc
import Derived.Test.YtmipeaidieflmaaWalk
import Derived.Test.YtmipeaidieflmaaSrt
set_option linter.unusedVariables false
set_option linter.unusedSimpArgs false
set_option linter.unnecessarySimpa false
set_option maxHeartbeats 4000000
set_option maxRecDepth 20000
namespace Go.Proofs.Ytmipeaidieflmaa
open Go.Vc Go.Dec Go.Win

theorem lE {α : Type} {a b : α} (h : a = b := by first | rfl | (simp only [encZ, List.map_append, List.map_cons, List.map_nil, List.map_take, List.map_drop, List.map_set, List.map_replicate]; done) | (simp only [encZ, List.map_append, List.map_cons, List.map_nil, List.map_take, List.map_drop, List.map_set, List.map_replicate]; rfl) | (simp only [encZ, List.map_append, List.map_cons, List.map_nil, List.map_take, List.map_drop, List.map_set, List.map_replicate, eL, enc_api_Command, enc_tape_Tape, enc_ref27_Cursor, enc_api_Answer, enc_api_Reply, enc_api_Ranks]; done) | (simp only [encZ, List.map_append, List.map_cons, List.map_nil, List.map_take, List.map_drop, List.map_set, List.map_replicate, eL, enc_api_Command, enc_tape_Tape, enc_ref27_Cursor, enc_api_Answer, enc_api_Reply, enc_api_Ranks]; rfl) | (simp only [map_laid, List.length_map, encZ, List.map_append, List.map_cons, List.map_nil, List.map_take, List.map_drop, List.map_set, List.map_replicate, eL, enc_api_Command, enc_tape_Tape, enc_ref27_Cursor, enc_api_Answer, enc_api_Reply, enc_api_Ranks]; first | done | rfl)) : a = b := h
abbrev tM (n : Nat) (v : AV) : Vc.Loc × Cont := (.tmp n, .av v)
abbrev tB (n : Nat) (cs : List AV) : Vc.Loc × Cont := (.box n, .box cs)
abbrev iI (n : Int) : AV := .int .i64 n
abbrev iU (n : Int) : AV := .int .u64 n
abbrev lF (n : Nat) (xs : List (List AV)) : AV := .lst n false xs
theorem cD {α : Type} {b : Bool} {x y r : α} {p q : Prop} (h : cond b x y = r) (A : b = true → x = r → p) (B : b = false → y = r → q) : (b = true → p) ∧ (b = false → q) := ⟨fun g => A g (cT g h), fun g => B g (cF g h)⟩
theorem cN {α : Type} {b : Bool} {x y r : α} {p q : Prop} (h : cond (!b) x y = r) (A : b = true → y = r → p) (B : b = false → x = r → q) : (b = true → p) ∧ (b = false → q) := ⟨fun g => A g (cF (nE g) h), fun g => B g (cT (nE g) h)⟩
theorem cK {p : CK → Prop} {a : AV} {bs : List (List AV)} (h : p (CK.plain a bs)) : Exists p := ⟨_, h⟩
theorem jU {p : List (Nat × Option Nat) → List Nat → Unit → Prop} (h : p [] [] ()) : ∃ a b c, p a b c := ⟨[], [], (), h⟩
theorem jT {α : Type} {p : List (Nat × Option Nat) → List Nat → α → Prop} (c : α) (h : p [] [] c) : ∃ a b c, p a b c := ⟨[], [], c, h⟩
theorem jL (n : Nat) : n < n + 1 := Nat.lt_succ_self n
theorem C0 {f : FuncId} {fn : Func} (hf : Try.prog.funcs[f]? = some fn) (hcall : ∀ (vs : Array Value) (w : World), (callFunc f vs).run Try.prog w = .ok (.enter f vs) w) {args : List AV} {bx : List (List AV)} {r : AV} {bx' : List (List AV)} (m : Nat)
    (h : vcs Try.prog tab m (bodyOf fn) vret m (initSt args bx none) (retK tab m fn.results.toList r bx' none)) (hst : (hasBody fn && okCode fn.ntmps (bodyOf fn)) = true := by kernel_rfl) (hmm : bx.length + 1 = m := by rfl) (hargs : Nat.ble args.length fn.ntmps = true := by rfl) : ContractT Try.prog f args bx none r bx' none :=
  contract_of_vcs tab_ok orders_ok hf hcall hst m hmm hargs _ rfl h
theorem cW {f : FuncId} {a1 a2 : List AV} {bx bx2 : List (List AV)} {tk tk2 : TK1} {r : AV} {bx' : List (List AV)} {tk' : TK1} (h : ContractT Try.prog f a2 bx2 tk2 r bx' tk') (hw : wkVs (bx2.length + 1) a1 a2 (wkLL (bx2.length + 1) bx bx2 (tkW tk tk2))) : ContractT Try.prog f a1 bx tk r bx' tk' := ContractT.wk h hw

theorem c_made_Mod (p0 : Int) (p1 : Int) (r : Int) (h : made_Mod p0 p1 = some r) : Contract Try.prog 43 [iI p0, iI p1] [] (iI r) [] := by
 refine C0 Try.func43 Try.call43 1 ?_
 delta made_Mod at h
 refine eN (eN ?_)
 obtain ⟨a, h⟩ := ckS h
 refine An (oD a) ?_
 refine eN (cD h (fun g1 h => ?_) (fun g1 h => ?_))
 first | cases h | rw [← oJ h]
 exact eN (r1 trivial)
 first | cases h | rw [← oJ h]
 exact eN (r1 trivial)

theorem c_made_Int (p0 : Int) (p1 : Int) (r : Int) (h : made_Int p0 p1 = some r) : Contract Try.prog 19 [iI p0, iI p1] [] (iI r) [] := by
 refine C0 Try.func19 Try.call19 1 ?_
 delta made_Int at h
 refine eN (eN ?_)
 obtain ⟨a, b, h⟩ := bS h
 refine cK (An (cW (c_made_Mod p0 p1 a b) (r2 trivial)) (r1 ?_))
 first | cases h | rw [← oJ h]
 exact (r1 trivial)

theorem c_made_Value (p0 : Int) (r : Int) (h : made_Value p0 = some r) : Contract Try.prog 20 [iI p0] [] (iI r) [] := by
 refine C0 Try.func20 Try.call20 1 ?_
 delta made_Value at h
 refine eN (eN (An (by decide) ?_))
 refine eN ?_
 obtain ⟨a, b, h⟩ := bS h
 refine cK (An (cW (c_made_Mod p0 (8:Int) a b) (r2 trivial)) (r1 ?_))
 refine eN (cD h (fun g1 h => ?_) (fun g1 h => ?_))
 refine eN ?_
 obtain ⟨c, d, h⟩ := bS h
 refine cK (An (cW (c_made_Mod (w64 (Int.tdiv p0 (8:Int))) (8193:Int) c d) (r2 trivial)) (r1 ?_))
 first | cases h | rw [← oJ h]
 exact (r1 trivial)
 refine eN (cD h (fun g2 h => ?_) (fun g2 h => ?_))
 refine eN ?_
 obtain ⟨e, f, h⟩ := bS h
 refine cK (An (cW (c_made_Mod (w64 (Int.tdiv p0 (8:Int))) (2:Int) e f) (r2 trivial)) (r1 ?_))
 first | cases h | rw [← oJ h]
 exact (r1 trivial)
 refine eN ?_
 obtain ⟨g, i, h⟩ := bS h
 refine cK (An (cW (c_made_Mod (w64 (Int.tdiv p0 (8:Int))) (13:Int) g i) (r2 trivial)) (r1 ?_))
 first | cases h | rw [← oJ h]
 exact (r1 trivial)

theorem c_rank_Of (p0 : (List Int)) (r : (api_Ranks × Int)) (h : rank_Of p0 = some r) : Contract Try.prog 44 [lF 1 (List.map (eI .i64) p0)] [] (.tup [.agg [iI r.1.N, lF 3 (List.map enc_api_Entry r.1.Entries)], iI r.2]) [] := by
 refine C0 Try.func44 Try.call44 1 ?_
 delta rank_Of at h
 refine eN (eN (eX [iI (p0.length : Int)] (An (lenS (eI .i64) p0) ?_)))
 refine cD h (fun g1 h => ?_) (fun g1 h => ?_)
 first | cases h | rw [← oJ h]
 exact eN (r3 trivial)
 refine eN ?_
 obtain ⟨d, h⟩ := ckS h
 refine eX (CK.fresh _ _ _) (An (clone_int false p0 (oD d)) ?_)
 refine eN ?_
 obtain ⟨e, h⟩ := ckS h
 refine eX (CK.sorts 514 2 p0) (An sorts_int (An (An rfl (An rfl (oD e))) ?_))
 refine eN (eX [iI ((sortZ p0).length : Int)] (An (lenS (eI .i64) (sortZ p0)) ?_))
 refine eN (eX [iI ((sortZ p0).length : Int)] (An (lenS (eI .i64) (sortZ p0)) ?_))
 replace h : rank_Of_l3 p0 (0:Int) ([] : List api_Entry) = some r := h
 delta rank_Of_l3 at h
 obtain ⟨n1, h⟩ := loopS h
 refine eX (Sum.inl ⟨(Int × (List api_Entry)) × Nat, fun q => [tM 2 (.ptr 1 0), tM 5 (.ptr 1028 0), tM 19 (.own 514), tM 20 (iI ((sortZ p0).length : Int)), tM 21 (iI q.1.1), tB 1 [iI (0:Int), .nilS], tB 1028 [iI ((sortZ p0).length : Int), .own 1536], (.tok 514, .tok 2 1 (List.map (eI .i64) (sortZ p0))), (.tok 1536, .tok 73 3 (List.map enc_api_Entry q.1.2))], fun q => loopN (fun (s : (Int × (List api_Entry))) => rank_Of_l3s p0 s.1 s.2) q.2 q.1 = some r, fun q => q.2⟩) (An (eX [(1536, none)] (eX [] (eX (((0:Int), ([] : List api_Entry)), n1) (An h (r7 trivial))))) ?_)
 clear h
 refine fun q h => ?_
 obtain ⟨⟨a, b⟩, n1⟩ := q
 obtain ⟨m1, x1, hm1, h, hl1, hr1⟩ := loopN_step h
 replace hm1 : n1 = m1 + 1 := hm1
 subst hm1
 replace h : rank_Of_l3s p0 a b = some x1 := h
 delta rank_Of_l3s at h
 refine eN (cD h (fun g2 h => ?_) (fun g2 h => ?_))
 refine eN ?_
 obtain ⟨j, f, h⟩ := bS h
 obtain ⟨c, g, h⟩ := bS h
 refine An (idx_lt (eI .i64) f) ?_
 refine eX [iI c] (An (idx_elt (eI .i64) g) ?_)
 refine eN ?_
 obtain ⟨i, h⟩ := ckS h
 refine An (kA (oD i)) ?_
 exact eN (eX [(1536, some 2058)] (eX [] (eX (((w64 (a + (1:Int))), (b ++ [(api_Entry.mk c (w64 (a + (1:Int))) (w64 (a + (1:Int))))])), m1) (An (hl1 ((w64 (a + (1:Int))), (b ++ [(api_Entry.mk c (w64 (a + (1:Int))) (w64 (a + (1:Int))))])) (oJ h).symm) (An (Nat.lt_succ_self m1) (r6 (An lE trivial)))))))
 replace h := popS h hr1
 first | cases h | rw [← oJ h]
 exact eN (r1 (fr (r1 trivial)))

theorem c_rank_Validate (p0 : api_Ranks) (r : Int) (h : rank_Validate p0 = some r) : Contract Try.prog 22 [.agg [iI p0.N, lF 3 (List.map enc_api_Entry p0.Entries)]] [] (iI r) [] := by
 refine C0 Try.func22 Try.call22 1 ?_
 delta rank_Validate at h
 refine eN (eN (eX [iI (p0.Entries.length : Int)] (An (lenS enc_api_Entry p0.Entries) ?_)))
 refine eN (eN (An (fun g1 => ?_) (fun g1 => ?_)))
 refine An (fun g2 => ?_) (fun g2 => ?_)
 refine An (fun g3 => ?_) (fun g3 => ?_)
 replace h := cT (oR (oR g1 g2) g3) h
 first | cases h | rw [← oJ h]
 exact eN (r1 trivial)
 replace h := cF (oR (oR g1 g2) g3) h
 refine eN (eX [iI (p0.Entries.length : Int)] (An (lenS enc_api_Entry p0.Entries) ?_))
 replace h : rank_Validate_l3 p0 (0:Int) = some r := h
 delta rank_Validate_l3 at h
 obtain ⟨n1, h⟩ := loopS h
 refine eX (Sum.inl ⟨Int × Nat, fun q => [tM 1 (.ptr 1 0), tM 3 (iI (p0.Entries.length : Int)), tM 27 (lF 3 (List.map enc_api_Entry p0.Entries)), tM 28 (iI (p0.Entries.length : Int)), tM 29 (iI q.1), tB 1 [iI p0.N, lF 3 (List.map enc_api_Entry p0.Entries)]], fun q => loopN (fun (s : Int) => rank_Validate_l3s p0 s) q.2 q.1 = some r, fun q => q.2⟩) (An (eX [] (eX [] (eX ((0:Int), n1) (An h (r2 (fr (r3 (fr trivial)))))))) ?_)
 clear h
 refine fun q h => ?_
 obtain ⟨f, n1⟩ := q
 obtain ⟨m1, x1, hm1, h, hl1, hr1⟩ := loopN_step h
 replace hm1 : n1 = m1 + 1 := hm1
 subst hm1
 replace h : rank_Validate_l3s p0 f = some x1 := h
 delta rank_Validate_l3s at h
 refine eN (cD h (fun g4 h => ?_) (fun g4 h => ?_))
 refine eN (eN ?_)
 obtain ⟨d, j, h⟩ := bS h
 refine eX [iI d.V, iI d.Min, iI d.Max] (An (idx_map enc_api_Entry j) ?_)
 refine eN (eN (An (fun g5 => ?_) (fun g5 => ?_)))
 refine An (fun g6 => ?_) (fun g6 => ?_)
 refine An (fun g7 => ?_) (fun g7 => ?_)
 replace h := cT (oR (oR g5 g6) g7) h
 cases retS h hr1
 exact eN (r1 trivial)
 replace h := cF (oR (oR g5 g6) g7) h
 refine eN (eN (cD h (fun g8 h => ?_) (fun g8 h => ?_)))
 refine eN ?_
 obtain ⟨c, g, h⟩ := bS h
 refine eX [iI c.V, iI c.Min, iI c.Max] (An (idx_map enc_api_Entry g) ?_)
 refine eN (eN (An (fun g9 => ?_) (fun g9 => ?_)))
 refine An (fun g10 => ?_) (fun g10 => ?_)
 refine An (fun g11 => ?_) (fun g11 => ?_)
 replace h := cT (oR (oR g9 g10) g11) h
 cases retS h hr1
 exact eN (r1 trivial)
 replace h := cF (oR (oR g9 g10) g11) h
 exact eN (jT (_, m1) (An (hl1 _ (oJ h).symm) (An (jL m1) (r2 (fr (r3 (fr trivial)))))))
 replace h := cT (oL (oR g9 g10)) h
 cases retS h hr1
 exact eN (r1 trivial)
 replace h := cT (oL (oL g9)) h
 cases retS h hr1
 exact eN (r1 trivial)
 exact eN (jT (_, m1) (An (hl1 _ (oJ h).symm) (An (jL m1) (r2 (fr (r3 (fr trivial)))))))
 replace h := cT (oL (oR g5 g6)) h
 cases retS h hr1
 exact eN (r1 trivial)
 replace h := cT (oL (oL g5)) h
 cases retS h hr1
 exact eN (r1 trivial)
 replace h := popS h hr1
 refine eN ?_
 obtain ⟨b, i, h⟩ := bS h
 obtain ⟨a, e, h⟩ := bS h
 refine eX (some (⟨Unit, fun _ => [tM 100 (.sb ((decide ((p0.Entries.length : Int) > (0:Int))) && ((b.Max != (1:Int)) || (a.Min != p0.N))))], fun _ => True, fun _ => 0⟩, 1000000)) (An ?_ (fun _ _ => ?_))
 refine An (fun g12 => ?_) (fun g12 => ?_)
 refine eX [iI b.V, iI b.Min, iI b.Max] (An (idx_map enc_api_Entry (gdT g12 i)) ?_)
 refine An (fun g13 => ?_) (fun g13 => ?_)
 refine eX [iI a.V, iI a.Min, iI a.Max] (An (idx_map enc_api_Entry (gdT (aR g12 (nE g13)) e)) ?_)
 exact jU (An trivial (r1 (An (Eq.symm (aR g12 (oR g13 rfl))) trivial)))
 exact jU (An trivial (r1 (An (Eq.symm (aR g12 (oL g13))) trivial)))
 exact jU (An trivial (r1 (An (Eq.symm (aL g12)) trivial)))
 refine cD h (fun g14 h => ?_) (fun g14 h => ?_)
 first | cases h | rw [← oJ h]
 exact eN (r1 trivial)
 first | cases h | rw [← oJ h]
 exact eN (r1 trivial)
 replace h := cT (oL (oR g1 g2)) h
 first | cases h | rw [← oJ h]
 exact eN (r1 trivial)
 replace h := cT (oL (oL g1)) h
 first | cases h | rw [← oJ h]
 exact eN (r1 trivial)

theorem c_rank_copied (p0 : api_Ranks) (r : api_Ranks) (h : rank_copied p0 = some r) : Contract Try.prog 64 [.agg [iI p0.N, lF 3 (List.map enc_api_Entry p0.Entries)]] [] (.agg [iI r.N, lF 3 (List.map enc_api_Entry r.Entries)]) [] := by
 refine C0 Try.func64 Try.call64 1 ?_
 delta rank_copied at h
 refine eN (eN ?_)
 obtain ⟨a, h⟩ := ckS h
 refine An (kA (oD a)) ?_
 first | cases h | rw [← oJ h]
 exact (r1 (An ff (An lE trivial)))

theorem c_rank_between (p0 : api_Entry) (p1 : (List api_Entry)) (p2 : Int) (p3 : Int) (r : api_Entry) (h : rank_between p0 p1 p2 p3 = some r) : Contract Try.prog 65 [.agg [iI p0.V, iI p0.Min, iI p0.Max], lF 3 (List.map enc_api_Entry p1), iI p2, iI p3] [] (.agg [iI r.V, iI r.Min, iI r.Max]) [] := by
 refine C0 Try.func65 Try.call65 1 ?_
 delta rank_between at h
 refine eN (eN (eX (some (⟨Int, fun a => [tM 1 (lF 3 (List.map enc_api_Entry p1)), tM 2 (iI p2), tM 3 (iI p3), tM 4 (.ptr 1 0), tM 8 (.ptr 2 0), tB 1 [iI p0.V, iI a, iI p0.Max], tB 2 [iI (0:Int), iI (0:Int), iI (0:Int)]], fun a => rank_between_j1 p0 p1 p2 p3 a = some r, fun _ => 0⟩, 1000000)) (An ?_ ?_)))
 refine cD h (fun g1 h => ?_) (fun g1 h => ?_)
 refine eN ?_
 obtain ⟨b, d, h⟩ := bS h
 refine eX [iI b.V, iI b.Min, iI b.Max] (An (idx_map enc_api_Entry d) ?_)
 exact jT (w64 (p0.Min + b.Min)) (An h (r1 (fr (r8 trivial))))
 exact jT p0.Min (An h (r1 (fr (r8 trivial))))
 clear h
 refine fun a h => ?_
 replace h : rank_between_j1 p0 p1 p2 p3 a = some r := h
 delta rank_between_j1 at h
 refine eN (eX [iI (p1.length : Int)] (An (lenS enc_api_Entry p1) ?_))
 refine eN (cD h (fun g2 h => ?_) (fun g2 h => ?_))
 refine eN ?_
 obtain ⟨c, e, h⟩ := bS h
 refine eX [iI c.V, iI c.Min, iI c.Max] (An (idx_map enc_api_Entry e) ?_)
 first | cases h | rw [← oJ h]
 exact eN (r3 trivial)
 first | cases h | rw [← oJ h]
 exact eN (eN (r3 trivial))

theorem c_rank_Merge (p0 : api_Ranks) (p1 : api_Ranks) (r : (api_Ranks × Int)) (h : rank_Merge p0 p1 = some r) : Contract Try.prog 45 [.agg [iI p0.N, lF 3 (List.map enc_api_Entry p0.Entries)], .agg [iI p1.N, lF 3 (List.map enc_api_Entry p1.Entries)]] [] (.tup [.agg [iI r.1.N, lF 3 (List.map enc_api_Entry r.1.Entries)], iI r.2]) [] := by
 refine C0 Try.func45 Try.call45 1 ?_
 delta rank_Merge at h
 refine eN (eN ?_)
 obtain ⟨B, C, h⟩ := bS h
 refine cK (An (cW (c_rank_Validate p0 B C) (r1 (fr trivial))) (r1 ?_))
 refine eN (cD h (fun g1 h => ?_) (fun g1 h => ?_))
 first | cases h | rw [← oJ h]
 exact eN (r3 trivial)
 refine eN ?_
 obtain ⟨D, E, h⟩ := bS h
 refine cK (An (cW (c_rank_Validate p1 D E) (r1 (fr trivial))) (r1 ?_))
 refine eN (cD h (fun g2 h => ?_) (fun g2 h => ?_))
 first | cases h | rw [← oJ h]
 exact eN (r3 trivial)
 refine eN (cD h (fun g3 h => ?_) (fun g3 h => ?_))
 first | cases h | rw [← oJ h]
 exact eN (r3 trivial)
 refine eN (cD h (fun g4 h => ?_) (fun g4 h => ?_))
 refine eN ?_
 obtain ⟨p, t, h⟩ := bS h
 refine cK (An (cW (c_rank_copied p1 p t) (r1 (fr trivial))) (r1 ?_))
 first | cases h | rw [← oJ h]
 exact (r1 (fr (r1 trivial)))
 refine eN (cD h (fun g5 h => ?_) (fun g5 h => ?_))
 refine eN ?_
 obtain ⟨u, v, h⟩ := bS h
 refine cK (An (cW (c_rank_copied p0 u v) (r1 (fr trivial))) (r1 ?_))
 first | cases h | rw [← oJ h]
 exact (r1 (fr (r1 trivial)))
 refine eN (eN (eN ?_))
 replace h : rank_Merge_l7 p0 p1 (0:Int) (0:Int) ([] : List api_Entry) = some r := h
 delta rank_Merge_l7 at h
 obtain ⟨n1, h⟩ := loopS h
 refine eX (Sum.inl ⟨(Int × Int × (List api_Entry)) × Nat, fun q => [tM 2 (.ptr 1 0), tM 3 (.ptr 2 0), tM 4 (.ptr 3 0), tM 8 (.ptr 2055 0), tM 9 (lF 3 (List.map enc_api_Entry p0.Entries)), tM 10 (lF 3 (List.map enc_api_Entry p1.Entries)), tM 11 (iI q.1.1), tM 12 (iI q.1.2.1), tB 1 [iI p0.N, lF 3 (List.map enc_api_Entry p0.Entries)], tB 2 [iI p1.N, lF 3 (List.map enc_api_Entry p1.Entries)], tB 3 [iI (0:Int), .nilS], tB 2055 [iI (w64 (p0.N + p1.N)), .own 2816], (.tok 2816, .tok 73 3 (List.map enc_api_Entry q.1.2.2))], fun q => loopN (fun (s : (Int × Int × (List api_Entry))) => rank_Merge_l7s p0 p1 s.1 s.2.1 s.2.2) q.2 q.1 = some r, fun q => q.2⟩) (An (eX [(2816, none)] (eX [] (eX (((0:Int), (0:Int), ([] : List api_Entry)), n1) (An h (r1 (fr (fr (r3 (fr (r1 (fr (r3 trivial)))))))))))) ?_)
 clear h
 refine fun q h => ?_
 obtain ⟨⟨c, d, a⟩, n1⟩ := q
 obtain ⟨m1, x1, hm1, h, hl1, hr1⟩ := loopN_step h
 replace hm1 : n1 = m1 + 1 := hm1
 subst hm1
 replace h : rank_Merge_l7s p0 p1 c d a = some x1 := h
 delta rank_Merge_l7s at h
 refine eN (eX (some (⟨Unit, fun _ => [tM 2 (.ptr 1 0), tM 3 (.ptr 2 0), tM 4 (.ptr 3 0), tM 8 (.ptr 2055 0), tM 9 (lF 3 (List.map enc_api_Entry p0.Entries)), tM 10 (lF 3 (List.map enc_api_Entry p1.Entries)), tM 11 (iI c), tM 12 (iI d), tM 62 (.sb ((decide (c < (p0.Entries.length : Int))) || (decide (d < (p1.Entries.length : Int))))), tB 1 [iI p0.N, lF 3 (List.map enc_api_Entry p0.Entries)], tB 2 [iI p1.N, lF 3 (List.map enc_api_Entry p1.Entries)], tB 3 [iI (0:Int), .nilS], tB 2055 [iI (w64 (p0.N + p1.N)), .own 2816], (.tok 2816, .tok 73 3 (List.map enc_api_Entry a))], fun _ => True, fun _ => 0⟩, 1000000)) (An ?_ (fun _ _ => ?_)))
 refine eX [iI (p0.Entries.length : Int)] (An (lenS enc_api_Entry p0.Entries) ?_)
 refine An (fun g6 => ?_) (fun g6 => ?_)
 refine eX [iI (p1.Entries.length : Int)] (An (lenS enc_api_Entry p1.Entries) ?_)
 exact jU (An trivial (r1 (fr (fr (r2 (An (Eq.symm (oR g6 rfl)) (r1 (fr (r1 (fr (r3 trivial)))))))))))
 exact jU (An trivial (r1 (fr (fr (r2 (An (Eq.symm (oL g6)) (r1 (fr (r1 (fr (r3 trivial)))))))))))
 refine cD h (fun g7 h => ?_) (fun g7 h => ?_)
 refine eN (eN (eN ?_))
 obtain ⟨e, n, h⟩ := bS h
 obtain ⟨f, o, h⟩ := bS h
 refine eX (some (⟨Unit, fun _ => [tM 2 (.ptr 1 0), tM 3 (.ptr 2 0), tM 4 (.ptr 3 0), tM 8 (.ptr 2055 0), tM 9 (lF 3 (List.map enc_api_Entry p0.Entries)), tM 10 (lF 3 (List.map enc_api_Entry p1.Entries)), tM 11 (iI c), tM 12 (iI d), tM 13 (.ptr 1000000 0), tM 85 (.sb ((d == (p1.Entries.length : Int)) || ((decide (c < (p0.Entries.length : Int))) && (decide (e.V ≤ f.V))))), tB 1 [iI p0.N, lF 3 (List.map enc_api_Entry p0.Entries)], tB 2 [iI p1.N, lF 3 (List.map enc_api_Entry p1.Entries)], tB 3 [iI (0:Int), .nilS], tB 2055 [iI (w64 (p0.N + p1.N)), .own 2816], tB 1000000 [iI (0:Int), iI (0:Int), iI (0:Int)], (.tok 2816, .tok 73 3 (List.map enc_api_Entry a))], fun _ => True, fun _ => 0⟩, 2000000)) (An ?_ (fun _ _ => ?_))
 refine eX [iI (p1.Entries.length : Int)] (An (lenS enc_api_Entry p1.Entries) ?_)
 refine An (fun g8 => ?_) (fun g8 => ?_)
 refine eX [iI (p0.Entries.length : Int)] (An (lenS enc_api_Entry p0.Entries) ?_)
 refine An (fun g9 => ?_) (fun g9 => ?_)
 refine eX [iI e.V, iI e.Min, iI e.Max] (An (idx_map enc_api_Entry (gdT (aR (nE g8) g9) n)) ?_)
 refine eX [iI f.V, iI f.Min, iI f.Max] (An (idx_map enc_api_Entry (gdT (aR (nE g8) g9) o)) ?_)
 exact jU (An trivial (r1 (fr (fr (r2 (An (Eq.symm (oR g8 (aR g9 rfl))) (r1 (fr (r1 (fr (r6 trivial)))))))))))
 exact jU (An trivial (r1 (fr (fr (r2 (An (Eq.symm (oR g8 (aL g9))) (r1 (fr (r1 (fr (r6 trivial)))))))))))
 exact jU (An trivial (r1 (fr (fr (r2 (An (Eq.symm (oL g8)) (r1 (fr (r1 (fr (r6 trivial)))))))))))
 refine eX (some (⟨Int × Int × api_Entry, fun q => [tM 2 (.ptr 1 0), tM 3 (.ptr 2 0), tM 4 (.ptr 3 0), tM 8 (.ptr 2055 0), tM 9 (lF 3 (List.map enc_api_Entry p0.Entries)), tM 10 (lF 3 (List.map enc_api_Entry p1.Entries)), tM 11 (iI q.1), tM 12 (iI q.2.1), tM 13 (.ptr 1000000 0), tB 1 [iI p0.N, lF 3 (List.map enc_api_Entry p0.Entries)], tB 2 [iI p1.N, lF 3 (List.map enc_api_Entry p1.Entries)], tB 3 [iI (0:Int), .nilS], tB 2055 [iI (w64 (p0.N + p1.N)), .own 2816], tB 1000000 [iI q.2.2.V, iI q.2.2.Min, iI q.2.2.Max], (.tok 2816, .tok 73 3 (List.map enc_api_Entry a))], fun q => rank_Merge_j10 a q.1 q.2.1 q.2.2 = some x1, fun _ => 0⟩, 3000000)) (An ?_ ?_)
 refine cD h (fun g10 h => ?_) (fun g10 h => ?_)
 refine eN ?_
 obtain ⟨g, w, h⟩ := bS h
 obtain ⟨l, x, h⟩ := bS h
 refine eX [iI g.V, iI g.Min, iI g.Max] (An (idx_map enc_api_Entry w) ?_)
 refine cK (An (cW (c_rank_between g p1.Entries d p1.N l x) (r3 (fr (r2 trivial)))) (r1 ?_))
 exact eN (jT ((w64 (c + (1:Int))), d, l) (An h (r1 (fr (fr (r3 (fr (r1 (fr (r6 trivial))))))))))
 refine eN ?_
 obtain ⟨i, y, h⟩ := bS h
 obtain ⟨m, z, h⟩ := bS h
 refine eX [iI i.V, iI i.Min, iI i.Max] (An (idx_map enc_api_Entry y) ?_)
 refine cK (An (cW (c_rank_between i p0.Entries c p0.N m z) (r3 (fr (r2 trivial)))) (r1 ?_))
 exact eN (jT (c, (w64 (d + (1:Int))), m) (An h (r1 (fr (fr (r3 (fr (r1 (fr (r6 trivial))))))))))
 clear h
 refine fun q h => ?_
 obtain ⟨j, k, b⟩ := q
 replace h : rank_Merge_j10 a j k b = some x1 := h
 delta rank_Merge_j10 at h
 refine eN ?_
 obtain ⟨A, h⟩ := ckS h
 refine An (kA (oD A)) ?_
 exact eX [(2816, some 3000004)] (eX [] (eX ((j, k, (a ++ [b])), m1) (An (hl1 (j, k, (a ++ [b])) (oJ h).symm) (An (Nat.lt_succ_self m1) (r1 (fr (fr (r3 (fr (r1 (fr (r2 (An lE trivial)))))))))))))
 replace h := popS h hr1
 first | cases h | rw [← oJ h]
 exact eN (r1 (fr (r1 trivial)))

theorem c_rank_far' (p0 : api_Entry) (p1 : Int) (r : Int) (h : rank_far p0 p1 = r) : Contract Try.prog 79 [.agg [iI p0.V, iI p0.Min, iI p0.Max], iI p1] [] (iI r) [] := by
 refine C0 Try.func79 Try.call79 1 ?_
 delta rank_far at h
 cases h
 exact eN (eN (r1 trivial))

theorem c_rank_place (p0 : (List api_Entry)) (p1 : Int) (p2 : Int) (r : Int) (h : rank_place p0 p1 p2 = some r) : Contract Try.prog 66 [lF 3 (List.map enc_api_Entry p0), iI p1, iI p2] [] (iI r) [] := by
 refine C0 Try.func66 Try.call66 1 ?_
 delta rank_place at h
 refine eN ?_
 replace h : rank_place_l2 p0 p1 p2 = some r := h
 delta rank_place_l2 at h
 obtain ⟨n1, h⟩ := loopS h
 refine eX (Sum.inl ⟨Int × Nat, fun q => [tM 0 (lF 3 (List.map enc_api_Entry p0)), tM 1 (iI p1), tM 2 (iI q.1)], fun q => loopN (fun (s : Int) => rank_place_l2s p0 p1 s) q.2 q.1 = some r, fun q => q.2⟩) (An (eX [] (eX [] (eX (p2, n1) (An h (r1 (fr (r2 trivial))))))) ?_)
 clear h
 refine fun q h => ?_
 obtain ⟨c, n1⟩ := q
 obtain ⟨m1, x1, hm1, h, hl1, hr1⟩ := loopN_step h
 replace hm1 : n1 = m1 + 1 := hm1
 subst hm1
 replace h : rank_place_l2s p0 p1 c = some x1 := h
 delta rank_place_l2s at h
 refine eN ?_
 obtain ⟨b, e, h⟩ := bS h
 obtain ⟨a, d, h⟩ := bS h
 refine eX (some (⟨Unit, fun _ => [tM 0 (lF 3 (List.map enc_api_Entry p0)), tM 1 (iI p1), tM 2 (iI c), tM 27 (.sb ((decide ((w64 (c + (1:Int))) < (p0.length : Int))) && (decide ((rank_far b p1) < (rank_far a p1)))))], fun _ => True, fun _ => 0⟩, 1000000)) (An ?_ (fun _ _ => ?_))
 refine eX [iI (p0.length : Int)] (An (lenS enc_api_Entry p0) ?_)
 refine An (fun g1 => ?_) (fun g1 => ?_)
 refine eX [iI b.V, iI b.Min, iI b.Max] (An (idx_map enc_api_Entry (gdT g1 e)) ?_)
 refine cK (An (cW (c_rank_far' b p1 _ rfl) (r4 trivial)) (r1 ?_))
 refine eX [iI a.V, iI a.Min, iI a.Max] (An (idx_map enc_api_Entry (gdT g1 d)) ?_)
 refine cK (An (cW (c_rank_far' a p1 _ rfl) (r4 trivial)) (r1 ?_))
 exact jU (An trivial (r1 (fr (r2 (An (Eq.symm (aR g1 rfl)) trivial)))))
 exact jU (An trivial (r1 (fr (r2 (An (Eq.symm (aL g1)) trivial)))))
 refine cD h (fun g2 h => ?_) (fun g2 h => ?_)
 exact eN (jT (_, m1) (An (hl1 _ (oJ h).symm) (An (jL m1) (r1 (fr (r2 trivial))))))
 replace h := popS h hr1
 first | cases h | rw [← oJ h]
 exact eN (r1 trivial)

theorem c_rank_Prune (p0 : api_Ranks) (p1 : Int) (r : (api_Ranks × Int)) (h : rank_Prune p0 p1 = some r) : Contract Try.prog 46 [.agg [iI p0.N, lF 3 (List.map enc_api_Entry p0.Entries)], iI p1] [] (.tup [.agg [iI r.1.N, lF 3 (List.map enc_api_Entry r.1.Entries)], iI r.2]) [] := by
 refine C0 Try.func46 Try.call46 1 ?_
 delta rank_Prune at h
 refine eN (eN ?_)
 obtain ⟨k, l, h⟩ := bS h
 refine cK (An (cW (c_rank_Validate p0 k l) (r1 (fr trivial))) (r1 ?_))
 refine eN (cD h (fun g1 h => ?_) (fun g1 h => ?_))
 first | cases h | rw [← oJ h]
 exact eN (r3 trivial)
 refine eN (eN (An (fun g2 => ?_) (fun g2 => ?_)))
 refine An (fun g3 => ?_) (fun g3 => ?_)
 replace h := cT (oR g2 g3) h
 first | cases h | rw [← oJ h]
 exact eN (r3 trivial)
 replace h := cF (oR g2 g3) h
 refine eN (eX [iI (p0.Entries.length : Int)] (An (lenS enc_api_Entry p0.Entries) ?_))
 refine cD h (fun g4 h => ?_) (fun g4 h => ?_)
 refine eN ?_
 obtain ⟨m, n, h⟩ := bS h
 refine cK (An (cW (c_rank_copied p0 m n) (r1 (fr trivial))) (r1 ?_))
 first | cases h | rw [← oJ h]
 exact (r1 (fr (r1 trivial)))
 refine eN (eN (eN ?_))
 replace h : rank_Prune_l5 p0 p1 (-1:Int) (0:Int) (0:Int) ([] : List api_Entry) = some r := h
 delta rank_Prune_l5 at h
 obtain ⟨n1, h⟩ := loopS h
 refine eX (Sum.inl ⟨(Int × Int × Int × (List api_Entry)) × Nat, fun q => [tM 1 (iI p1), tM 2 (.ptr 1 0), tM 4 (.ptr 2 0), tM 7 (.ptr 1284 0), tM 8 (iI q.1.1), tM 9 (iI q.1.2.1), tM 10 (iI q.1.2.2.1), tB 1 [iI p0.N, lF 3 (List.map enc_api_Entry p0.Entries)], tB 2 [iI (0:Int), .nilS], tB 1284 [iI p0.N, .own 2048], (.tok 2048, .tok 73 3 (List.map enc_api_Entry q.1.2.2.2))], fun q => loopN (fun (s : (Int × Int × Int × (List api_Entry))) => rank_Prune_l5s p0 p1 s.1 s.2.1 s.2.2.1 s.2.2.2) q.2 q.1 = some r, fun q => q.2⟩) (An (eX [(2048, none)] (eX [] (eX (((-1:Int), (0:Int), (0:Int), ([] : List api_Entry)), n1) (An h (r6 (fr (r3 trivial))))))) ?_)
 clear h
 refine fun q h => ?_
 obtain ⟨⟨o, e, d, a⟩, n1⟩ := q
 obtain ⟨m1, x1, hm1, h, hl1, hr1⟩ := loopN_step h
 replace hm1 : n1 = m1 + 1 := hm1
 subst hm1
 replace h : rank_Prune_l5s p0 p1 o e d a = some x1 := h
 delta rank_Prune_l5s at h
 refine eN (cD h (fun g5 h => ?_) (fun g5 h => ?_))
 refine eN (eN ?_)
 obtain ⟨g, h⟩ := ckS h
 obtain ⟨b, f, h⟩ := bS h
 refine An (oD g) ?_
 refine cK (An (cW (c_rank_place p0.Entries (w64 ((1:Int) + (w64 (Int.tdiv (w64 (d * (w64 (p0.N - (1:Int))))) p1)))) e b f) (fr (r2 trivial))) (r1 ?_))
 refine eN (eN (cD h (fun g6 h => ?_) (fun g6 h => ?_)))
 refine eN ?_
 obtain ⟨c, i, h⟩ := bS h
 obtain ⟨j, h⟩ := ckS h
 refine eX [iI c.V, iI c.Min, iI c.Max] (An (idx_map enc_api_Entry i) ?_)
 refine An (kA (oD j)) ?_
 exact eN (eN (eX [(2048, some 2825)] (eX [] (eX ((b, b, (w64 (d + (1:Int))), (a ++ [c])), m1) (An (hl1 (b, b, (w64 (d + (1:Int))), (a ++ [c])) (oJ h).symm) (An (Nat.lt_succ_self m1) (r6 (fr (r2 (An lE trivial))))))))))
 exact eN (jT (_, m1) (An (hl1 _ (oJ h).symm) (An (jL m1) (r6 (fr (r3 trivial))))))
 replace h := popS h hr1
 first | cases h | rw [← oJ h]
 exact eN (r1 (fr (r1 trivial)))
 replace h := cT (oL g2) h
 first | cases h | rw [← oJ h]
 exact eN (r3 trivial)

theorem c_law21_tree : ∀ (fu : Nat) (p0 : (List Int)) (p1 : Int) (r : (api_Ranks × Bool)) (h : law21_tree fu p0 p1 = some r), Contract Try.prog 21 [lF 1 (List.map (eI .i64) p0), iI p1] [] (.tup [.agg [iI r.1.N, lF 3 (List.map enc_api_Entry r.1.Entries)], .sb r.2]) [] := by
 intro fu
 induction fu with
 | zero =>
  intro p0 p1 r h
  rw [law21_tree] at h
  cases h
 | succ fu ih =>
 intro p0 p1 r h
 refine C0 Try.func21 Try.call21 1 ?_
 rw [law21_tree] at h
 refine eN (eN (eX [iI (p0.length : Int)] (An (lenS (eI .i64) p0) ?_)))
 refine cD h (fun g1 h => ?_) (fun g1 h => ?_)
 refine eN ?_
 obtain ⟨d, e, h⟩ := bS h
 refine cK (An (cW (c_rank_Of p0 d e) (fr trivial)) (r1 ?_))
 first | cases h | rw [← oJ h]
 exact eN (r1 (fr (r1 trivial)))
 refine eN (eX [iI (p0.length : Int)] (An (lenS (eI .i64) p0) ?_))
 refine An (by decide) ?_
 refine eN ?_
 obtain ⟨f, h⟩ := ckS h
 obtain ⟨a, g, h⟩ := bS h
 refine An (kA (oD f)) ?_
 refine cK (An (cW (ih (p0.take ((w64 (Int.tdiv (p0.length : Int) (2:Int)))).toNat) p1 a g) (An ff (An lE (r1 trivial)))) (r1 ?_))
 refine eN ?_
 obtain ⟨i, h⟩ := ckS h
 obtain ⟨b, j, h⟩ := bS h
 refine An (kA (oD i)) ?_
 refine cK (An (cW (ih (p0.drop ((w64 (Int.tdiv (p0.length : Int) (2:Int)))).toNat) p1 b j) (An ff (An lE (r1 trivial)))) (r1 ?_))
 refine eN ?_
 obtain ⟨c, k, h⟩ := bS h
 refine cK (An (cW (c_rank_Merge a.1 b.1 c k) (r1 (fr (r1 (fr trivial))))) (r1 ?_))
 refine eN ?_
 obtain ⟨l, m, h⟩ := bS h
 refine cK (An (cW (c_rank_Prune c.1 p1 l m) (r1 (fr (r1 trivial)))) (r1 ?_))
 refine eN (eN (An (fun g2 => ?_) (fun g2 => ?_)))
 refine An (fun g3 => ?_) (fun g3 => ?_)
 refine An (fun g4 => ?_) (fun g4 => ?_)
 first | cases h | rw [← oJ h]
 exact (r1 (fr (An (Eq.symm (aR (aR (aR g2 g3) g4) rfl)) trivial)))
 first | cases h | rw [← oJ h]
 exact (r1 (fr (An (Eq.symm (aL (aR (aR g2 g3) g4))) trivial)))
 first | cases h | rw [← oJ h]
 exact (r1 (fr (An (Eq.symm (aL (aL (aR g2 g3)))) trivial)))
 first | cases h | rw [← oJ h]
 exact (r1 (fr (An (Eq.symm (aL (aL (aL g2)))) trivial)))

theorem c_ref08_Below (p0 : (List api_Item)) (p1 : Int) (r : Int) (h : ref08_Below p0 p1 = some r) : Contract Try.prog 23 [lF 2 (List.map enc_api_Item p0), iI p1] [] (iI r) [] := by
 refine C0 Try.func23 Try.call23 1 ?_
 delta ref08_Below at h
 refine eN (eN (eN (eX [iI (p0.length : Int)] (An (lenS enc_api_Item p0) ?_))))
 replace h : ref08_Below_l2 p0 p1 (0:Int) (0:Int) = some r := h
 delta ref08_Below_l2 at h
 obtain ⟨n1, h⟩ := loopS h
 refine eX (Sum.inl ⟨(Int × Int) × Nat, fun q => [tM 1 (iI p1), tM 5 (iI q.1.1), tM 8 (lF 2 (List.map enc_api_Item p0)), tM 9 (iI (p0.length : Int)), tM 10 (iI q.1.2)], fun q => loopN (fun (s : (Int × Int)) => ref08_Below_l2s p0 p1 s.1 s.2) q.2 q.1 = some r, fun q => q.2⟩) (An (eX [] (eX [] (eX (((0:Int), (0:Int)), n1) (An h (r3 (fr (r2 trivial))))))) ?_)
 clear h
 refine fun q h => ?_
 obtain ⟨⟨c, b⟩, n1⟩ := q
 obtain ⟨m1, x1, hm1, h, hl1, hr1⟩ := loopN_step h
 replace hm1 : n1 = m1 + 1 := hm1
 subst hm1
 replace h : ref08_Below_l2s p0 p1 c b = some x1 := h
 delta ref08_Below_l2s at h
 refine eN (cD h (fun g1 h => ?_) (fun g1 h => ?_))
 refine eN (eN ?_)
 obtain ⟨a, d, h⟩ := bS h
 refine eX [iI a.T, iI a.V] (An (idx_map enc_api_Item d) ?_)
 refine eN (eN (cD h (fun g2 h => ?_) (fun g2 h => ?_)))
 exact eN (eN (jT (_, m1) (An (hl1 _ (oJ h).symm) (An (jL m1) (r3 (fr (r2 trivial)))))))
 exact eN (jT (_, m1) (An (hl1 _ (oJ h).symm) (An (jL m1) (r3 (fr (r2 trivial))))))
 replace h := popS h hr1
 first | cases h | rw [← oJ h]
 exact eN (r1 trivial)

theorem c_ref08_Rank (p0 : (List api_Item)) (p1 : Int) (r : Int) (h : ref08_Rank p0 p1 = some r) : Contract Try.prog 24 [lF 2 (List.map enc_api_Item p0), iI p1] [] (iI r) [] := by
 refine C0 Try.func24 Try.call24 1 ?_
 delta ref08_Rank at h
 refine eN (eN (eN (eX [iI (p0.length : Int)] (An (lenS enc_api_Item p0) ?_))))
 replace h : ref08_Rank_l2 p0 p1 (0:Int) (0:Int) = some r := h
 delta ref08_Rank_l2 at h
 obtain ⟨n1, h⟩ := loopS h
 refine eX (Sum.inl ⟨(Int × Int) × Nat, fun q => [tM 1 (iI p1), tM 5 (iI q.1.1), tM 8 (lF 2 (List.map enc_api_Item p0)), tM 9 (iI (p0.length : Int)), tM 10 (iI q.1.2)], fun q => loopN (fun (s : (Int × Int)) => ref08_Rank_l2s p0 p1 s.1 s.2) q.2 q.1 = some r, fun q => q.2⟩) (An (eX [] (eX [] (eX (((0:Int), (0:Int)), n1) (An h (r3 (fr (r2 trivial))))))) ?_)
 clear h
 refine fun q h => ?_
 obtain ⟨⟨c, b⟩, n1⟩ := q
 obtain ⟨m1, x1, hm1, h, hl1, hr1⟩ := loopN_step h
 replace hm1 : n1 = m1 + 1 := hm1
 subst hm1
 replace h : ref08_Rank_l2s p0 p1 c b = some x1 := h
 delta ref08_Rank_l2s at h
 refine eN (cD h (fun g1 h => ?_) (fun g1 h => ?_))
 refine eN (eN ?_)
 obtain ⟨a, d, h⟩ := bS h
 refine eX [iI a.T, iI a.V] (An (idx_map enc_api_Item d) ?_)
 refine eN (eN (cD h (fun g2 h => ?_) (fun g2 h => ?_)))
 exact eN (eN (jT (_, m1) (An (hl1 _ (oJ h).symm) (An (jL m1) (r3 (fr (r2 trivial)))))))
 exact eN (jT (_, m1) (An (hl1 _ (oJ h).symm) (An (jL m1) (r3 (fr (r2 trivial))))))
 replace h := popS h hr1
 first | cases h | rw [← oJ h]
 exact eN (r1 trivial)

theorem c_ratio_Of' (p0 : Int) (r : api_Ratio) (h : ratio_Of p0 = r) : Contract Try.prog 67 [iI p0] [] (.agg [iI r.Num, iI r.Den]) [] := by
 refine C0 Try.func67 Try.call67 1 ?_
 delta ratio_Of at h
 cases h
 exact eN (eN (r2 trivial))

theorem c_bounds_Whole' (p0 : Int) (p1 : Int) (r : (api_Bounds × Bool)) (h : bounds_Whole p0 p1 = r) : Contract Try.prog 47 [iI p0, iI p1] [] (.tup [.agg (enc_api_Bounds r.1), .sb r.2]) [] := by
 refine C0 Try.func47 Try.call47 1 ?_
 delta bounds_Whole at h
 refine eN (eN (cD h (fun g1 h => ?_) (fun g1 h => ?_)))
 cases h
 exact eN (r7 trivial)
 refine eN (An (by decide) ?_)
 refine eN (cK (An (cW (c_ratio_Of' p0 _ rfl) (r1 trivial)) (r1 ?_)))
 refine cK (An (cW (c_ratio_Of' (w64 ((iand .i64 p0 p1) + (ishr .i64 (ixor .i64 p0 p1) (1:Int)))) _ rfl) (r1 trivial)) (r1 ?_))
 refine cK (An (cW (c_ratio_Of' p1 _ rfl) (r1 trivial)) (r1 ?_))
 cases h
 exact (r7 trivial)

theorem c_rank_Rank (p0 : api_Ranks) (p1 : Int) (r : (api_Bounds × Int)) (h : rank_Rank p0 p1 = some r) : Contract Try.prog 25 [.agg [iI p0.N, lF 3 (List.map enc_api_Entry p0.Entries)], iI p1] [] (.tup [.agg (enc_api_Bounds r.1), iI r.2]) [] := by
 refine C0 Try.func25 Try.call25 1 ?_
 delta rank_Rank at h
 refine eN (eN ?_)
 obtain ⟨f, g, h⟩ := bS h
 refine cK (An (cW (c_rank_Validate p0 f g) (r1 (fr trivial))) (r1 ?_))
 refine eN (cD h (fun g1 h => ?_) (fun g1 h => ?_))
 first | cases h | rw [← oJ h]
 exact eN (r7 trivial)
 refine eN (eN (eX [iI (p0.Entries.length : Int)] (An (lenS enc_api_Entry p0.Entries) ?_)))
 refine eX (some (⟨Int × Int, fun q => [tM 4 (.ptr 2 0), tM 7 (iI q.1), tM 8 (iI q.2), tB 2 [iI (0:Int), iI (0:Int), iI (0:Int), iI (0:Int), iI (0:Int), iI (0:Int)]], fun q => rank_Rank_j2 q.1 q.2 = some r, fun _ => 0⟩, 1000000)) (An ?_ ?_)
 replace h : rank_Rank_l3 p0 p1 (0:Int) (0:Int) = some r := h
 delta rank_Rank_l3 at h
 obtain ⟨n1, h⟩ := loopS h
 refine eX (Sum.inl ⟨(Int × Int) × Nat, fun q => [tM 1 (iI p1), tM 4 (.ptr 2 0), tM 7 (iI q.1.1), tM 8 (iI p0.N), tM 22 (lF 3 (List.map enc_api_Entry p0.Entries)), tM 23 (iI (p0.Entries.length : Int)), tM 24 (iI q.1.2), tB 2 [iI (0:Int), iI (0:Int), iI (0:Int), iI (0:Int), iI (0:Int), iI (0:Int)]], fun q => loopN (fun (s : (Int × Int)) => rank_Rank_l3s p0 p1 s.1 s.2) q.2 q.1 = some r, fun q => q.2⟩) (An (eX [] (eX [] (eX (((0:Int), (0:Int)), n1) (An h (r4 (fr (r8 trivial))))))) ?_)
 clear h
 refine fun q h => ?_
 obtain ⟨⟨b, e⟩, n1⟩ := q
 obtain ⟨m1, x1, hm1, h, hl1, hr1⟩ := loopN_step h
 replace hm1 : n1 = m1 + 1 := hm1
 subst hm1
 replace h : rank_Rank_l3s p0 p1 b e = some x1 := h
 delta rank_Rank_l3s at h
 refine eN (cD h (fun g2 h => ?_) (fun g2 h => ?_))
 refine eN ?_
 obtain ⟨a, i, h⟩ := bS h
 refine eX [iI a.V, iI a.Min, iI a.Max] (An (idx_map enc_api_Entry i) ?_)
 refine eN (cD h (fun g3 h => ?_) (fun g3 h => ?_))
 refine eN ?_
 replace h := popS h hr1
 exact jT (b, (w64 (a.Max - (1:Int)))) (An h (r8 (r1 trivial)))
 exact eN (eN (jT (_, m1) (An (hl1 _ (oJ h).symm) (An (jL m1) (r4 (fr (r8 trivial)))))))
 replace h := popS h hr1
 exact jT (b, p0.N) (An h (r8 (r1 trivial)))
 clear h
 refine fun q h => ?_
 obtain ⟨c, d⟩ := q
 replace h : rank_Rank_j2 c d = some r := h
 delta rank_Rank_j2 at h
 refine eN (cK (An (cW (c_bounds_Whole' c d _ rfl) (r2 trivial)) (r1 ?_)))
 first | cases h | rw [← oJ h]
 exact eN (r7 trivial)

theorem c_law21_awake (r : Bool) (h : law21_awake = some r) : Contract Try.prog 26 [] [] (.sb r) [] := by
 refine C0 Try.func26 Try.call26 1 ?_
 delta law21_awake at h
 refine eN (eN ?_)
 obtain ⟨b, d, h⟩ := bS h
 refine cK (An (cW (c_rank_Of [(3:Int), (1:Int)] b d) (An ff (An lE trivial))) (r1 ?_))
 refine eN ?_
 obtain ⟨a, c, h⟩ := bS h
 refine eN (An (fun g1 => ?_) (fun g1 => ?_))
 refine An (fun g2 => ?_) (fun g2 => ?_)
 refine eX [iI (b.1.Entries.length : Int)] (An (lenS enc_api_Entry b.1.Entries) ?_)
 refine An (fun g3 => ?_) (fun g3 => ?_)
 refine eX [iI a.V, iI a.Min, iI a.Max] (An (idx_map enc_api_Entry (gdT (aR (aR g1 g2) g3) c)) ?_)
 first | cases h | rw [← oJ h]
 exact (An (Eq.symm (aR (aR (aR g1 g2) g3) rfl)) trivial)
 first | cases h | rw [← oJ h]
 exact (An (Eq.symm (aL (aR (aR g1 g2) g3))) trivial)
 first | cases h | rw [← oJ h]
 exact (An (Eq.symm (aL (aL (aR g1 g2)))) trivial)
 first | cases h | rw [← oJ h]
 exact (An (Eq.symm (aL (aL (aL g1)))) trivial)

theorem c_law21_RankTruth (p0 : (List Int)) (p1 : Int) (p2 : Int) (r : Bool) (h : law21_RankTruth p0 p1 p2 = some r) : Contract Try.prog 6 [lF 1 (List.map (eI .i64) p0), iI p1, iI p2] [] (.sb r) [] := by
 refine C0 Try.func6 Try.call6 1 ?_
 delta law21_RankTruth at h
 refine eN (eN ?_)
 obtain ⟨c, F, h⟩ := bS h
 refine cK (An (cW (c_made_Int p1 (20:Int) c F) (r2 trivial)) (r1 ?_))
 refine eN (eN (eN ?_))
 replace h : law21_RankTruth_l2 p0 p2 c ([] : List Int) ([] : List api_Item) (0:Int) = some r := h
 delta law21_RankTruth_l2 at h
 obtain ⟨n1, h⟩ := loopS h
 refine eX (Sum.inl ⟨((List Int) × (List api_Item) × Int) × Nat, fun q => [tM 0 (lF 1 (List.map (eI .i64) p0)), tM 1 (iI (w64 ((1:Int) + c))), tM 2 (iI p2), tM 7 (.own 1280), tM 8 (.own 1279), tM 9 (iI q.1.2.2), (.tok 1279, .tok 65 2 (List.map enc_api_Item q.1.2.1)), (.tok 1280, .tok 2 1 (List.map (eI .i64) q.1.1))], fun q => loopN (fun (s : ((List Int) × (List api_Item) × Int)) => law21_RankTruth_l2s p0 p2 c s.1 s.2.1 s.2.2) q.2 q.1 = some r, fun q => q.2⟩) (An (eX [(1279, none), (1280, none)] (eX [] (eX ((([] : List Int), ([] : List api_Item), (0:Int)), n1) (An h (r1 (fr (r5 trivial))))))) ?_)
 clear h
 refine fun q h => ?_
 obtain ⟨⟨d, a, f⟩, n1⟩ := q
 obtain ⟨m1, x1, hm1, h, hl1, hr1⟩ := loopN_step h
 replace hm1 : n1 = m1 + 1 := hm1
 subst hm1
 replace h : law21_RankTruth_l2s p0 p2 c d a f = some x1 := h
 delta law21_RankTruth_l2s at h
 refine eN (eX (some (⟨Unit, fun _ => [tM 0 (lF 1 (List.map (eI .i64) p0)), tM 1 (iI (w64 ((1:Int) + c))), tM 2 (iI p2), tM 7 (.own 1280), tM 8 (.own 1279), tM 9 (iI f), tM 29 (.sb ((decide (f < (p0.length : Int))) && (decide (f < (150:Int))))), (.tok 1279, .tok 65 2 (List.map enc_api_Item a)), (.tok 1280, .tok 2 1 (List.map (eI .i64) d))], fun _ => True, fun _ => 0⟩, 1000000)) (An ?_ (fun _ _ => ?_)))
 refine eX [iI (p0.length : Int)] (An (lenS (eI .i64) p0) ?_)
 refine An (fun g1 => ?_) (fun g1 => ?_)
 exact jU (An trivial (r1 (fr (r3 (An (Eq.symm (aR g1 rfl)) (r2 trivial))))))
 exact jU (An trivial (r1 (fr (r3 (An (Eq.symm (aL g1)) (r2 trivial))))))
 refine cD h (fun g2 h => ?_) (fun g2 h => ?_)
 refine eN ?_
 obtain ⟨k, G, h⟩ := bS h
 obtain ⟨i, H, h⟩ := bS h
 obtain ⟨I, h⟩ := ckS h
 obtain ⟨j, n, h⟩ := bS h
 obtain ⟨g, o, h⟩ := bS h
 obtain ⟨p, h⟩ := ckS h
 refine eX [iI k] (An (idx_map (eI .i64) G) ?_)
 refine cK (An (cW (c_made_Value k i H) (r1 trivial)) (r1 ?_))
 refine An (kA (oD I)) ?_
 refine eX [iI j] (An (idx_map (eI .i64) n) ?_)
 refine cK (An (cW (c_made_Value j g o) (r1 trivial)) (r1 ?_))
 refine An (kA (oD p)) ?_
 exact eN (eX [(1279, some 1000016), (1280, some 1000007)] (eX [] (eX (((d ++ [i]), (a ++ [(api_Item.mk (0:Int) g)]), (w64 (f + (1:Int)))), m1) (An (hl1 ((d ++ [i]), (a ++ [(api_Item.mk (0:Int) g)]), (w64 (f + (1:Int)))) (oJ h).symm) (An (Nat.lt_succ_self m1) (r1 (fr (r3 (An lE (An lE trivial))))))))))
 replace h := popS h hr1
 refine eX (some ([], [1280], [tM 1 (iI (w64 ((1:Int) + c))), tM 2 (iI p2), tM 7 (lF 1 (List.map (eI .i64) d)), tM 8 (.own 1279), (.tok 1279, .tok 65 2 (List.map enc_api_Item a))], 2000000)) (An (r3 (fr (r1 trivial))) ?_)
 obtain ⟨b, J, h⟩ := bS h
 refine cK (An (cW (c_law21_tree 200 d (w64 ((1:Int) + c)) b J) (fr (r1 trivial))) (r1 ?_))
 refine eN ?_
 obtain ⟨t, u, h⟩ := bS h
 refine eN (An (fun g3 => ?_) (fun g3 => ?_))
 refine eX [iI (d.length : Int)] (An (lenS (eI .i64) d) ?_)
 refine An (fun g4 => ?_) (fun g4 => ?_)
 refine cK (An (cW (c_rank_Validate b.1 t (gdT (nE (oR g3 g4)) u)) (r1 (fr trivial))) (r1 ?_))
 refine An (fun g5 => ?_) (fun g5 => ?_)
 replace h := cT (oR (oR g3 g4) g5) h
 first | cases h | rw [← oJ h]
 exact eN (r1 trivial)
 replace h := cF (oR (oR g3 g4) g5) h
 refine eN (eX [iI (b.1.Entries.length : Int)] (An (lenS enc_api_Entry b.1.Entries) ?_))
 replace h : law21_RankTruth_l7 p2 a b (0:Int) = some r := h
 delta law21_RankTruth_l7 at h
 obtain ⟨n1, h⟩ := loopS h
 refine eX (Sum.inl ⟨Int × Nat, fun q => [tM 2 (iI p2), tM 8 (.own 1279), tM 10 (.ptr 2000006 0), tM 70 (lF 3 (List.map enc_api_Entry b.1.Entries)), tM 71 (iI (b.1.Entries.length : Int)), tM 72 (iI q.1), tB 2000006 [iI b.1.N, lF 3 (List.map enc_api_Entry b.1.Entries)], (.tok 1279, .tok 65 2 (List.map enc_api_Item a))], fun q => loopN (fun (s : Int) => law21_RankTruth_l7s p2 a b s) q.2 q.1 = some r, fun q => q.2⟩) (An (eX [] (eX [] (eX ((0:Int), n1) (An h (r2 (fr (r3 (fr (r1 trivial))))))))) ?_)
 clear h
 refine fun q h => ?_
 obtain ⟨v, n1⟩ := q
 obtain ⟨m1, x1, hm1, h, hl1, hr1⟩ := loopN_step h
 replace hm1 : n1 = m1 + 1 := hm1
 subst hm1
 replace h : law21_RankTruth_l7s p2 a b v = some x1 := h
 delta law21_RankTruth_l7s at h
 refine eN (cD h (fun g6 h => ?_) (fun g6 h => ?_))
 refine eN ?_
 obtain ⟨e, w, h⟩ := bS h
 refine eX [iI e.V, iI e.Min, iI e.Max] (An (idx_map enc_api_Entry w) ?_)
 refine eN ?_
 obtain ⟨x, y, h⟩ := bS h
 obtain ⟨z, A, h⟩ := bS h
 refine cK (An (cW (c_ref08_Below a e.V x y) (fr (r1 trivial))) (r1 ?_))
 refine cK (An (cW (c_ref08_Rank a e.V z A) (fr (r1 trivial))) (r1 ?_))
 refine eN (eN (An (fun g7 => ?_) (fun g7 => ?_)))
 refine An (fun g8 => ?_) (fun g8 => ?_)
 refine An (fun g9 => ?_) (fun g9 => ?_)
 replace h := cT (oR (oR g7 g8) g9) h
 cases retS h hr1
 exact eN (r1 trivial)
 replace h := cF (oR (oR g7 g8) g9) h
 exact eN (jT (_, m1) (An (hl1 _ (oJ h).symm) (An (jL m1) (r2 (fr (r3 (fr (r1 trivial))))))))
 replace h := cT (oL (oR g7 g8)) h
 cases retS h hr1
 exact eN (r1 trivial)
 replace h := cT (oL (oL g7)) h
 cases retS h hr1
 exact eN (r1 trivial)
 replace h := popS h hr1
 refine eN ?_
 obtain ⟨B, C, h⟩ := bS h
 refine cK (An (cW (c_rank_Rank b.1 p2 B C) (r1 (fr (r1 trivial)))) (r1 ?_))
 refine eN ?_
 obtain ⟨D, E, h⟩ := bS h
 refine cK (An (cW (c_ref08_Rank a p2 D E) (fr (r1 trivial))) (r1 ?_))
 refine eN ?_
 obtain ⟨l, m, h⟩ := bS h
 refine eN (An (fun g10 => ?_) (fun g10 => ?_))
 refine An (fun g11 => ?_) (fun g11 => ?_)
 refine An (fun g12 => ?_) (fun g12 => ?_)
 refine cK (An (cW (c_law21_awake l (gdT (aR (aR g10 g11) g12) m)) trivial) (r1 ?_))
 first | cases h | rw [← oJ h]
 exact (An (Eq.symm (aR (aR (aR g10 g11) g12) rfl)) trivial)
 first | cases h | rw [← oJ h]
 exact (An (Eq.symm (aL (aR (aR g10 g11) g12))) trivial)
 first | cases h | rw [← oJ h]
 exact (An (Eq.symm (aL (aL (aR g10 g11)))) trivial)
 first | cases h | rw [← oJ h]
 exact (An (Eq.symm (aL (aL (aL g10)))) trivial)
 replace h := cT (oL (oR g3 g4)) h
 first | cases h | rw [← oJ h]
 exact eN (r1 trivial)
 replace h := cT (oL (oL g3)) h
 first | cases h | rw [← oJ h]
 exact eN (r1 trivial)

end Go.Proofs.Ytmipeaidieflmaa
