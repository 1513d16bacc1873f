/- The law SynopsisValidate of package windowpanelaw25 answers true at every input, and leaves its arguments as they were. Conditions: what it reads is of bulk at most 1048576. -/
import Derived.Test.YtinffhpeahlhoaaGreatRows
import Derived.Test.YtinffhpeahlhoaaGreatFSynopsisValidate
import Derived.Test.YtinffhpeahlhoaaGreatCon
import Derived.Test.YtinffhpeahlhoaaGreatVc
import Derived.Test.YtinffhpeahlhoaaGreatPuSyV
import Derived.ProofKit
import Derived.OpenShut
import Derived.JoinedCond
set_option linter.unusedVariables false
set_option linter.unusedSimpArgs false
namespace Go.Proofs.YtinffhpeahlhoaaGreat.synopsisValidate
open Go.Vc Go.Dec Go.Win Go.ChangeShapes Go.WideShapes Go.ChangeAt Go.RowKit

theorem own : ownKnob Tryz.prog.godebug = none := by kernel_rfl
theorem laidOut : laidOutB Tryz.prog = true := by kernel_rfl
theorem cells3 : Tryz.prog.cellsOf 3 = 1 := by kernel_rfl
theorem cells2 : Tryz.prog.cellsOf 2 = 1 := by kernel_rfl
theorem cells30 : Tryz.prog.cellsOf 30 = 8 := by kernel_rfl
theorem cells183 : Tryz.prog.cellsOf 183 = 2 := by kernel_rfl
theorem cells31 : Tryz.prog.cellsOf 31 = 1 := by kernel_rfl
theorem cells33 : Tryz.prog.cellsOf 33 = 4 := by kernel_rfl
theorem cells221 : Tryz.prog.cellsOf 221 = 2 := by kernel_rfl
theorem cells34 : Tryz.prog.cellsOf 34 = 1 := by kernel_rfl
theorem cells36 : Tryz.prog.cellsOf 36 = 5 := by kernel_rfl
theorem cells38 : Tryz.prog.cellsOf 38 = 6 := by kernel_rfl
theorem cells191 : Tryz.prog.cellsOf 191 = 7 := by kernel_rfl
theorem cells39 : Tryz.prog.cellsOf 39 = 1 := by kernel_rfl
theorem cells41 : Tryz.prog.cellsOf 41 = 7 := by kernel_rfl
theorem cells43 : Tryz.prog.cellsOf 43 = 6 := by kernel_rfl
theorem cells197 : Tryz.prog.cellsOf 197 = 1 := by kernel_rfl
theorem cells199 : Tryz.prog.cellsOf 199 = 2 := by kernel_rfl
theorem cells44 : Tryz.prog.cellsOf 44 = 1 := by kernel_rfl
theorem cells46 : Tryz.prog.cellsOf 46 = 4 := by kernel_rfl
theorem cells27 : Tryz.prog.cellsOf 27 = 1 := by kernel_rfl
theorem cells48 : Tryz.prog.cellsOf 48 = 2 := by kernel_rfl
theorem cells4 : Tryz.prog.cellsOf 4 = 1 := by kernel_rfl
theorem cells50 : Tryz.prog.cellsOf 50 = 5 := by kernel_rfl
theorem cells223 : Tryz.prog.cellsOf 223 = 2 := by kernel_rfl
theorem cells121 : Tryz.prog.cellsOf 121 = 1 := by kernel_rfl
theorem cells123 : Tryz.prog.cellsOf 123 = 5 := by kernel_rfl
theorem cells51 : Tryz.prog.cellsOf 51 = 1 := by kernel_rfl
theorem cells53 : Tryz.prog.cellsOf 53 = 1 := by kernel_rfl
theorem cells163 : Tryz.prog.cellsOf 163 = 3 := by kernel_rfl
theorem cells54 : Tryz.prog.cellsOf 54 = 1 := by kernel_rfl
theorem cells56 : Tryz.prog.cellsOf 56 = 4 := by kernel_rfl
theorem cells255 : Tryz.prog.cellsOf 255 = 3 := by kernel_rfl
theorem cells124 : Tryz.prog.cellsOf 124 = 1 := by kernel_rfl
theorem cells126 : Tryz.prog.cellsOf 126 = 2 := by kernel_rfl
theorem cells128 : Tryz.prog.cellsOf 128 = 5 := by kernel_rfl
theorem cells57 : Tryz.prog.cellsOf 57 = 1 := by kernel_rfl
theorem cells59 : Tryz.prog.cellsOf 59 = 5 := by kernel_rfl
theorem cells61 : Tryz.prog.cellsOf 61 = 57 := by kernel_rfl

theorem one_le {H : Type} (d : DataW H) : 1 ≤ Rows.uptoBulk d := by
  cases d with
  | lit l => cases l <;> simp [Rows.uptoBulk]
  | nil => simp [Rows.uptoBulk]
  | ptr d => simp [Rows.uptoBulk]
  | slice elems spare => simp [Rows.uptoBulk]
  | agg parts => simp [Rows.uptoBulk]
  | iface t d => simp [Rows.uptoBulk]
  | map entries => simp [Rows.uptoBulk]
  | held h => simp [Rows.uptoBulk]

theorem part_le {H : Type} {d : DataW H} {l : List (DataW H)} (h : d ∈ l) : Rows.uptoBulk d ≤ Rows.uptoBulkAll l := by
  induction l with
  | nil => cases h
  | cons x r ih =>
    simp only [Rows.uptoBulkAll]
    cases List.mem_cons.1 h with
    | inl e => subst e; omega
    | inr e => have := ih e; omega

theorem length_le {H : Type} (l : List (DataW H)) : l.length ≤ Rows.uptoBulkAll l := by
  induction l with
  | nil => simp [Rows.uptoBulkAll]
  | cons x r ih => have := one_le x; simp only [Rows.uptoBulkAll, List.length_cons]; omega

/-- What is read is small. -/
def sml {H : Type} (d : DataW H) : Prop := Rows.uptoBulk d ≤ 1048576
theorem sml_agg {H : Type} : ∀ ps : List (DataW H), sml (.agg ps) → ∀ d ∈ ps, sml d := fun ps h d hd => by
  have := part_le hd
  unfold sml at h ⊢
  simp only [Rows.uptoBulk] at h
  omega
theorem sml_slice {H : Type} : ∀ el sp : List (DataW H), sml (.slice el sp) → el.length ≤ 1048576 ∧ ∀ d ∈ el, sml d := fun el sp h => by
  unfold sml at h
  simp only [Rows.uptoBulk] at h
  refine ⟨?_, fun d hd => ?_⟩
  · have := length_le el; omega
  · have := part_le hd
    unfold sml
    omega
theorem sml_of {H : Type} {l : List (DataW H)} (hk : Rows.uptoSmall H l = true) {d : DataW H} (hd : d ∈ l) : sml d := by
  have h1 : Rows.uptoBulkAll l ≤ 1048576 := of_decide_eq_true hk
  have := part_le hd
  unfold sml
  omega

def Op {α : Type} (t : TypeId) (E : α → List AV) (W : α → Prop) : Prop := ∀ {H : Type} {enc : TypeId × Value → H} {w : World} {base : Nat} {spare : Nat → Bool} {held : Bool} {fuel : Nat} {cs : List Value} {x : DataW H × List MemPlace}, DataW.trod enc Tryz.prog w base spare held fuel t cs = some x → sml x.1 → ∃ y : α, F2 (LR w) (E y) cs ∧ W y
theorem fO {α : Type} {t : TypeId} {E : α → List AV} {W : α → Prop} (hop : Op t E W) {H : Type} {enc : TypeId × Value → H} {w : World} {base : Nat} {spare : Nat → Bool} {held : Bool} {fs : Array Field} {n : Nat} {cs : List Value} {xs : List (DataW H × List MemPlace)} {x : DataW H × List MemPlace} {q : List MemPlace} (hb : sml x.1) (hx : x = (.agg (xs.map (·.1)), q)) (hlen : xs.length = fs.size)
    (hf : ∀ (i : Nat) (f : Field), fs[i]? = some f → DataW.trod enc Tryz.prog w base spare held n f.type ((cs.drop f.offset).take (Tryz.prog.cellsOf f.type)) = xs[i]?) (i : Nat) (f : Field) (hi : fs[i]? = some f) (o k : Nat) (ht : f.type = t) (ho : f.offset = o) (hk : Tryz.prog.cellsOf t = k) : ∃ y, F2 (LR w) (E y) ((cs.drop o).take k) ∧ W y :=
  let ⟨_, g, b⟩ := fieldSU (B := sml) sml_agg hb hx hlen hf i f hi o k ht ho hk; hop g b
theorem open3 : Op 3 (eI .i64) (wfI .i64) := fun h _ => open_i Tryz.underlying3 h
theorem open2 : Op 2 (eI .i64) (wfI .i64) := fun h _ => open_i Tryz.underlying2 h
theorem open30 : Op 30 enc_api_Config wfU_api_Config := by
  intro H _ w _ _ _ _ cs _ h hb
  obtain ⟨xs, n, _, hx, hl, hlen, hf⟩ := DataW.trod_struct Tryz.underlying30 h
  rw [cells30] at hl
  obtain ⟨y0, r0, w0⟩ := fO open3 hb hx hlen hf 0 _ rfl 0 1 rfl rfl cells3
  obtain ⟨y1, r1, w1⟩ := fO open3 hb hx hlen hf 1 _ rfl 1 1 rfl rfl cells3
  obtain ⟨y2, r2, w2⟩ := fO open2 hb hx hlen hf 2 _ rfl 2 1 rfl rfl cells2
  obtain ⟨y3, r3, w3⟩ := fO open3 hb hx hlen hf 3 _ rfl 3 1 rfl rfl cells3
  obtain ⟨y4, r4, w4⟩ := fO open3 hb hx hlen hf 4 _ rfl 4 1 rfl rfl cells3
  obtain ⟨y5, r5, w5⟩ := fO open3 hb hx hlen hf 5 _ rfl 5 1 rfl rfl cells3
  obtain ⟨y6, r6, w6⟩ := fO open3 hb hx hlen hf 6 _ rfl 6 1 rfl rfl cells3
  obtain ⟨y7, r7, w7⟩ := fO open2 hb hx hlen hf 7 _ rfl 7 1 rfl rfl cells2
  exact ⟨api_Config.mk y0 y1 y2 y3 y4 y5 y6 y7, (f2_split r0 (f2_split r1 (f2_split r2 (f2_split r3 (f2_split r4 (f2_split r5 (f2_split r6 (f2_split r7 (f2_end (by omega))))))))) : F2 (LR w) _ (cs.drop 0)), w0, w1, w2, w3, w4, w5, w6, w7⟩
theorem open183 : Op 183 enc_api_Item wfU_api_Item := by
  intro H _ w _ _ _ _ cs _ h hb
  obtain ⟨xs, n, _, hx, hl, hlen, hf⟩ := DataW.trod_struct Tryz.underlying183 h
  rw [cells183] at hl
  obtain ⟨y0, r0, w0⟩ := fO open2 hb hx hlen hf 0 _ rfl 0 1 rfl rfl cells2
  obtain ⟨y1, r1, w1⟩ := fO open2 hb hx hlen hf 1 _ rfl 1 1 rfl rfl cells2
  exact ⟨api_Item.mk y0 y1, (f2_split r0 (f2_split r1 (f2_end (by omega))) : F2 (LR w) _ (cs.drop 0)), w0, w1⟩
theorem open31 : Op 31 (eL 2 enc_api_Item) (wfLU wfU_api_Item) := fun h hb => open_sU (B := sml) sml_slice enc_api_Item wfU_api_Item 2 Tryz.underlying31 cells183 (by decide) (fun _ => rfl) (fun _ _ _ h hb => open183 h hb) h hb
theorem open33 : Op 33 enc_api_Recent wfU_api_Recent := by
  intro H _ w _ _ _ _ cs _ h hb
  obtain ⟨xs, n, _, hx, hl, hlen, hf⟩ := DataW.trod_struct Tryz.underlying33 h
  rw [cells33] at hl
  obtain ⟨y0, r0, w0⟩ := fO open2 hb hx hlen hf 0 _ rfl 0 1 rfl rfl cells2
  obtain ⟨y1, r1, w1⟩ := fO open3 hb hx hlen hf 1 _ rfl 1 1 rfl rfl cells3
  obtain ⟨y2, r2, w2⟩ := fO open2 hb hx hlen hf 2 _ rfl 2 1 rfl rfl cells2
  obtain ⟨y3, r3, w3⟩ := fO open31 hb hx hlen hf 3 _ rfl 3 1 rfl rfl cells31
  exact ⟨api_Recent.mk y0 y1 y2 y3, (f2_split r0 (f2_split r1 (f2_split r2 (f2_split r3 (f2_end (by omega))))) : F2 (LR w) _ (cs.drop 0)), w0, w1, w2, w3⟩
theorem open221 : Op 221 enc_api_Bucket wfU_api_Bucket := by
  intro H _ w _ _ _ _ cs _ h hb
  obtain ⟨xs, n, _, hx, hl, hlen, hf⟩ := DataW.trod_struct Tryz.underlying221 h
  rw [cells221] at hl
  obtain ⟨y0, r0, w0⟩ := fO open2 hb hx hlen hf 0 _ rfl 0 1 rfl rfl cells2
  obtain ⟨y1, r1, w1⟩ := fO open3 hb hx hlen hf 1 _ rfl 1 1 rfl rfl cells3
  exact ⟨api_Bucket.mk y0 y1, (f2_split r0 (f2_split r1 (f2_end (by omega))) : F2 (LR w) _ (cs.drop 0)), w0, w1⟩
theorem open34 : Op 34 (eL 2 enc_api_Bucket) (wfLU wfU_api_Bucket) := fun h hb => open_sU (B := sml) sml_slice enc_api_Bucket wfU_api_Bucket 2 Tryz.underlying34 cells221 (by decide) (fun _ => rfl) (fun _ _ _ h hb => open221 h hb) h hb
theorem open36 : Op 36 enc_api_Count wfU_api_Count := by
  intro H _ w _ _ _ _ cs _ h hb
  obtain ⟨xs, n, _, hx, hl, hlen, hf⟩ := DataW.trod_struct Tryz.underlying36 h
  rw [cells36] at hl
  obtain ⟨y0, r0, w0⟩ := fO open2 hb hx hlen hf 0 _ rfl 0 1 rfl rfl cells2
  obtain ⟨y1, r1, w1⟩ := fO open3 hb hx hlen hf 1 _ rfl 1 1 rfl rfl cells3
  obtain ⟨y2, r2, w2⟩ := fO open3 hb hx hlen hf 2 _ rfl 2 1 rfl rfl cells3
  obtain ⟨y3, r3, w3⟩ := fO open2 hb hx hlen hf 3 _ rfl 3 1 rfl rfl cells2
  obtain ⟨y4, r4, w4⟩ := fO open34 hb hx hlen hf 4 _ rfl 4 1 rfl rfl cells34
  exact ⟨api_Count.mk y0 y1 y2 y3 y4, (f2_split r0 (f2_split r1 (f2_split r2 (f2_split r3 (f2_split r4 (f2_end (by omega)))))) : F2 (LR w) _ (cs.drop 0)), w0, w1, w2, w3, w4⟩
theorem open38 : Op 38 enc_api_Sum wfU_api_Sum := by
  intro H _ w _ _ _ _ cs _ h hb
  obtain ⟨xs, n, _, hx, hl, hlen, hf⟩ := DataW.trod_struct Tryz.underlying38 h
  rw [cells38] at hl
  obtain ⟨y0, r0, w0⟩ := fO open2 hb hx hlen hf 0 _ rfl 0 1 rfl rfl cells2
  obtain ⟨y1, r1, w1⟩ := fO open3 hb hx hlen hf 1 _ rfl 1 1 rfl rfl cells3
  obtain ⟨y2, r2, w2⟩ := fO open3 hb hx hlen hf 2 _ rfl 2 1 rfl rfl cells3
  obtain ⟨y3, r3, w3⟩ := fO open3 hb hx hlen hf 3 _ rfl 3 1 rfl rfl cells3
  obtain ⟨y4, r4, w4⟩ := fO open2 hb hx hlen hf 4 _ rfl 4 1 rfl rfl cells2
  obtain ⟨y5, r5, w5⟩ := fO open34 hb hx hlen hf 5 _ rfl 5 1 rfl rfl cells34
  exact ⟨api_Sum.mk y0 y1 y2 y3 y4 y5, (f2_split r0 (f2_split r1 (f2_split r2 (f2_split r3 (f2_split r4 (f2_split r5 (f2_end (by omega))))))) : F2 (LR w) _ (cs.drop 0)), w0, w1, w2, w3, w4, w5⟩
theorem open191 : Op 191 enc_api_Mark wfU_api_Mark := by
  intro H _ w _ _ _ _ cs _ h hb
  obtain ⟨xs, n, _, hx, hl, hlen, hf⟩ := DataW.trod_struct Tryz.underlying191 h
  rw [cells191] at hl
  obtain ⟨y0, r0, w0⟩ := fO open2 hb hx hlen hf 0 _ rfl 0 1 rfl rfl cells2
  obtain ⟨y1, r1, w1⟩ := fO open2 hb hx hlen hf 1 _ rfl 1 1 rfl rfl cells2
  obtain ⟨y2, r2, w2⟩ := fO open2 hb hx hlen hf 2 _ rfl 2 1 rfl rfl cells2
  obtain ⟨y3, r3, w3⟩ := fO open2 hb hx hlen hf 3 _ rfl 3 1 rfl rfl cells2
  obtain ⟨y4, r4, w4⟩ := fO open2 hb hx hlen hf 4 _ rfl 4 1 rfl rfl cells2
  obtain ⟨y5, r5, w5⟩ := fO open2 hb hx hlen hf 5 _ rfl 5 1 rfl rfl cells2
  obtain ⟨y6, r6, w6⟩ := fO open2 hb hx hlen hf 6 _ rfl 6 1 rfl rfl cells2
  exact ⟨api_Mark.mk y0 y1 y2 y3 y4 y5 y6, (f2_split r0 (f2_split r1 (f2_split r2 (f2_split r3 (f2_split r4 (f2_split r5 (f2_split r6 (f2_end (by omega)))))))) : F2 (LR w) _ (cs.drop 0)), w0, w1, w2, w3, w4, w5, w6⟩
theorem open39 : Op 39 (eL 7 enc_api_Mark) (wfLU wfU_api_Mark) := fun h hb => open_sU (B := sml) sml_slice enc_api_Mark wfU_api_Mark 7 Tryz.underlying39 cells191 (by decide) (fun _ => rfl) (fun _ _ _ h hb => open191 h hb) h hb
theorem open41 : Op 41 enc_api_Smooth wfU_api_Smooth := by
  intro H _ w _ _ _ _ cs _ h hb
  obtain ⟨xs, n, _, hx, hl, hlen, hf⟩ := DataW.trod_struct Tryz.underlying41 h
  rw [cells41] at hl
  obtain ⟨y0, r0, w0⟩ := fO open3 hb hx hlen hf 0 _ rfl 0 1 rfl rfl cells3
  obtain ⟨y1, r1, w1⟩ := fO open2 hb hx hlen hf 1 _ rfl 1 1 rfl rfl cells2
  obtain ⟨y2, r2, w2⟩ := fO open3 hb hx hlen hf 2 _ rfl 2 1 rfl rfl cells3
  obtain ⟨y3, r3, w3⟩ := fO open3 hb hx hlen hf 3 _ rfl 3 1 rfl rfl cells3
  obtain ⟨y4, r4, w4⟩ := fO open2 hb hx hlen hf 4 _ rfl 4 1 rfl rfl cells2
  obtain ⟨y5, r5, w5⟩ := fO open2 hb hx hlen hf 5 _ rfl 5 1 rfl rfl cells2
  obtain ⟨y6, r6, w6⟩ := fO open39 hb hx hlen hf 6 _ rfl 6 1 rfl rfl cells39
  exact ⟨api_Smooth.mk y0 y1 y2 y3 y4 y5 y6, (f2_split r0 (f2_split r1 (f2_split r2 (f2_split r3 (f2_split r4 (f2_split r5 (f2_split r6 (f2_end (by omega)))))))) : F2 (LR w) _ (cs.drop 0)), w0, w1, w2, w3, w4, w5, w6⟩
theorem open43 : Op 43 enc_api_Spread wfU_api_Spread := by
  intro H _ w _ _ _ _ cs _ h hb
  obtain ⟨xs, n, _, hx, hl, hlen, hf⟩ := DataW.trod_struct Tryz.underlying43 h
  rw [cells43] at hl
  obtain ⟨y0, r0, w0⟩ := fO open2 hb hx hlen hf 0 _ rfl 0 1 rfl rfl cells2
  obtain ⟨y1, r1, w1⟩ := fO open3 hb hx hlen hf 1 _ rfl 1 1 rfl rfl cells3
  obtain ⟨y2, r2, w2⟩ := fO open3 hb hx hlen hf 2 _ rfl 2 1 rfl rfl cells3
  obtain ⟨y3, r3, w3⟩ := fO open2 hb hx hlen hf 3 _ rfl 3 1 rfl rfl cells2
  obtain ⟨y4, r4, w4⟩ := fO open2 hb hx hlen hf 4 _ rfl 4 1 rfl rfl cells2
  obtain ⟨y5, r5, w5⟩ := fO open39 hb hx hlen hf 5 _ rfl 5 1 rfl rfl cells39
  exact ⟨api_Spread.mk y0 y1 y2 y3 y4 y5, (f2_split r0 (f2_split r1 (f2_split r2 (f2_split r3 (f2_split r4 (f2_split r5 (f2_end (by omega))))))) : F2 (LR w) _ (cs.drop 0)), w0, w1, w2, w3, w4, w5⟩
theorem open197 : Op 197 (eI .u64) (wfI .u64) := fun h _ => open_i Tryz.underlying197 h
theorem open199 : Op 199 enc_api_Wide wfU_api_Wide := by
  intro H _ w _ _ _ _ cs _ h hb
  obtain ⟨xs, n, _, hx, hl, hlen, hf⟩ := DataW.trod_struct Tryz.underlying199 h
  rw [cells199] at hl
  obtain ⟨y0, r0, w0⟩ := fO open197 hb hx hlen hf 0 _ rfl 0 1 rfl rfl cells197
  obtain ⟨y1, r1, w1⟩ := fO open197 hb hx hlen hf 1 _ rfl 1 1 rfl rfl cells197
  exact ⟨api_Wide.mk y0 y1, (f2_split r0 (f2_split r1 (f2_end (by omega))) : F2 (LR w) _ (cs.drop 0)), w0, w1⟩
theorem open44 : Op 44 (eL 2 enc_api_Wide) (wfLU wfU_api_Wide) := fun h hb => open_sU (B := sml) sml_slice enc_api_Wide wfU_api_Wide 2 Tryz.underlying44 cells199 (by decide) (fun _ => rfl) (fun _ _ _ h hb => open199 h hb) h hb
theorem open46 : Op 46 enc_api_Poly wfU_api_Poly := by
  intro H _ w _ _ _ _ cs _ h hb
  obtain ⟨xs, n, _, hx, hl, hlen, hf⟩ := DataW.trod_struct Tryz.underlying46 h
  rw [cells46] at hl
  obtain ⟨y0, r0, w0⟩ := fO open3 hb hx hlen hf 0 _ rfl 0 1 rfl rfl cells3
  obtain ⟨y1, r1, w1⟩ := fO open2 hb hx hlen hf 1 _ rfl 1 1 rfl rfl cells2
  obtain ⟨y2, r2, w2⟩ := fO open2 hb hx hlen hf 2 _ rfl 2 1 rfl rfl cells2
  obtain ⟨y3, r3, w3⟩ := fO open44 hb hx hlen hf 3 _ rfl 3 1 rfl rfl cells44
  exact ⟨api_Poly.mk y0 y1 y2 y3, (f2_split r0 (f2_split r1 (f2_split r2 (f2_split r3 (f2_end (by omega))))) : F2 (LR w) _ (cs.drop 0)), w0, w1, w2, w3⟩
theorem open27 : Op 27 (eL 1 (eI .i64)) (wfLU (wfI .i64)) := fun h hb => open_sU (B := sml) sml_slice (eI .i64) (wfI .i64) 1 Tryz.underlying27 cells2 (by decide) (fun _ => rfl) (fun _ _ _ h hb => open2 h hb) h hb
theorem open48 : Op 48 enc_api_Halve wfU_api_Halve := by
  intro H _ w _ _ _ _ cs _ h hb
  obtain ⟨xs, n, _, hx, hl, hlen, hf⟩ := DataW.trod_struct Tryz.underlying48 h
  rw [cells48] at hl
  obtain ⟨y0, r0, w0⟩ := fO open2 hb hx hlen hf 0 _ rfl 0 1 rfl rfl cells2
  obtain ⟨y1, r1, w1⟩ := fO open27 hb hx hlen hf 1 _ rfl 1 1 rfl rfl cells27
  exact ⟨api_Halve.mk y0 y1, (f2_split r0 (f2_split r1 (f2_end (by omega))) : F2 (LR w) _ (cs.drop 0)), w0, w1⟩
theorem open4 : Op 4 eB (fun _ => True) := fun h _ => open_b Tryz.underlying4 h
theorem open50 : Op 50 enc_api_Extreme wfU_api_Extreme := by
  intro H _ w _ _ _ _ cs _ h hb
  obtain ⟨xs, n, _, hx, hl, hlen, hf⟩ := DataW.trod_struct Tryz.underlying50 h
  rw [cells50] at hl
  obtain ⟨y0, r0, w0⟩ := fO open4 hb hx hlen hf 0 _ rfl 0 1 rfl rfl cells4
  obtain ⟨y1, r1, w1⟩ := fO open2 hb hx hlen hf 1 _ rfl 1 1 rfl rfl cells2
  obtain ⟨y2, r2, w2⟩ := fO open3 hb hx hlen hf 2 _ rfl 2 1 rfl rfl cells3
  obtain ⟨y3, r3, w3⟩ := fO open2 hb hx hlen hf 3 _ rfl 3 1 rfl rfl cells2
  obtain ⟨y4, r4, w4⟩ := fO open31 hb hx hlen hf 4 _ rfl 4 1 rfl rfl cells31
  exact ⟨api_Extreme.mk y0 y1 y2 y3 y4, (f2_split r0 (f2_split r1 (f2_split r2 (f2_split r3 (f2_split r4 (f2_end (by omega)))))) : F2 (LR w) _ (cs.drop 0)), w0, w1, w2, w3, w4⟩
theorem open223 : Op 223 enc_api_Link wfU_api_Link := by
  intro H _ w _ _ _ _ cs _ h hb
  obtain ⟨xs, n, _, hx, hl, hlen, hf⟩ := DataW.trod_struct Tryz.underlying223 h
  rw [cells223] at hl
  obtain ⟨y0, r0, w0⟩ := fO open2 hb hx hlen hf 0 _ rfl 0 1 rfl rfl cells2
  obtain ⟨y1, r1, w1⟩ := fO open2 hb hx hlen hf 1 _ rfl 1 1 rfl rfl cells2
  exact ⟨api_Link.mk y0 y1, (f2_split r0 (f2_split r1 (f2_end (by omega))) : F2 (LR w) _ (cs.drop 0)), w0, w1⟩
theorem open121 : Op 121 (eL 2 enc_api_Link) (wfLU wfU_api_Link) := fun h hb => open_sU (B := sml) sml_slice enc_api_Link wfU_api_Link 2 Tryz.underlying121 cells223 (by decide) (fun _ => rfl) (fun _ _ _ h hb => open223 h hb) h hb
theorem open123 : Op 123 enc_api_Chain wfU_api_Chain := by
  intro H _ w _ _ _ _ cs _ h hb
  obtain ⟨xs, n, _, hx, hl, hlen, hf⟩ := DataW.trod_struct Tryz.underlying123 h
  rw [cells123] at hl
  obtain ⟨y0, r0, w0⟩ := fO open2 hb hx hlen hf 0 _ rfl 0 1 rfl rfl cells2
  obtain ⟨y1, r1, w1⟩ := fO open3 hb hx hlen hf 1 _ rfl 1 1 rfl rfl cells3
  obtain ⟨y2, r2, w2⟩ := fO open2 hb hx hlen hf 2 _ rfl 2 1 rfl rfl cells2
  obtain ⟨y3, r3, w3⟩ := fO open2 hb hx hlen hf 3 _ rfl 3 1 rfl rfl cells2
  obtain ⟨y4, r4, w4⟩ := fO open121 hb hx hlen hf 4 _ rfl 4 1 rfl rfl cells121
  exact ⟨api_Chain.mk y0 y1 y2 y3 y4, (f2_split r0 (f2_split r1 (f2_split r2 (f2_split r3 (f2_split r4 (f2_end (by omega)))))) : F2 (LR w) _ (cs.drop 0)), w0, w1, w2, w3, w4⟩
theorem open51 : Op 51 (eL 5 enc_api_Chain) (wfLU wfU_api_Chain) := fun h hb => open_sU (B := sml) sml_slice enc_api_Chain wfU_api_Chain 5 Tryz.underlying51 cells123 (by decide) (fun _ => rfl) (fun _ _ _ h hb => open123 h hb) h hb
theorem open53 : Op 53 enc_api_Sample wfU_api_Sample := by
  intro H _ w _ _ _ _ cs _ h hb
  obtain ⟨xs, n, _, hx, hl, hlen, hf⟩ := DataW.trod_struct Tryz.underlying53 h
  rw [cells53] at hl
  obtain ⟨y0, r0, w0⟩ := fO open51 hb hx hlen hf 0 _ rfl 0 1 rfl rfl cells51
  exact ⟨api_Sample.mk y0, (f2_split r0 (f2_end (by omega)) : F2 (LR w) _ (cs.drop 0)), w0⟩
theorem open163 : Op 163 enc_api_Tuple wfU_api_Tuple := by
  intro H _ w _ _ _ _ cs _ h hb
  obtain ⟨xs, n, _, hx, hl, hlen, hf⟩ := DataW.trod_struct Tryz.underlying163 h
  rw [cells163] at hl
  obtain ⟨y0, r0, w0⟩ := fO open2 hb hx hlen hf 0 _ rfl 0 1 rfl rfl cells2
  obtain ⟨y1, r1, w1⟩ := fO open2 hb hx hlen hf 1 _ rfl 1 1 rfl rfl cells2
  obtain ⟨y2, r2, w2⟩ := fO open2 hb hx hlen hf 2 _ rfl 2 1 rfl rfl cells2
  exact ⟨api_Tuple.mk y0 y1 y2, (f2_split r0 (f2_split r1 (f2_split r2 (f2_end (by omega)))) : F2 (LR w) _ (cs.drop 0)), w0, w1, w2⟩
theorem open54 : Op 54 (eL 3 enc_api_Tuple) (wfLU wfU_api_Tuple) := fun h hb => open_sU (B := sml) sml_slice enc_api_Tuple wfU_api_Tuple 3 Tryz.underlying54 cells163 (by decide) (fun _ => rfl) (fun _ _ _ h hb => open163 h hb) h hb
theorem open56 : Op 56 enc_api_Summary wfU_api_Summary := by
  intro H _ w _ _ _ _ cs _ h hb
  obtain ⟨xs, n, _, hx, hl, hlen, hf⟩ := DataW.trod_struct Tryz.underlying56 h
  rw [cells56] at hl
  obtain ⟨y0, r0, w0⟩ := fO open3 hb hx hlen hf 0 _ rfl 0 1 rfl rfl cells3
  obtain ⟨y1, r1, w1⟩ := fO open3 hb hx hlen hf 1 _ rfl 1 1 rfl rfl cells3
  obtain ⟨y2, r2, w2⟩ := fO open2 hb hx hlen hf 2 _ rfl 2 1 rfl rfl cells2
  obtain ⟨y3, r3, w3⟩ := fO open54 hb hx hlen hf 3 _ rfl 3 1 rfl rfl cells54
  exact ⟨api_Summary.mk y0 y1 y2 y3, (f2_split r0 (f2_split r1 (f2_split r2 (f2_split r3 (f2_end (by omega))))) : F2 (LR w) _ (cs.drop 0)), w0, w1, w2, w3⟩
theorem open255 : Op 255 enc_api_Entry wfU_api_Entry := by
  intro H _ w _ _ _ _ cs _ h hb
  obtain ⟨xs, n, _, hx, hl, hlen, hf⟩ := DataW.trod_struct Tryz.underlying255 h
  rw [cells255] at hl
  obtain ⟨y0, r0, w0⟩ := fO open2 hb hx hlen hf 0 _ rfl 0 1 rfl rfl cells2
  obtain ⟨y1, r1, w1⟩ := fO open2 hb hx hlen hf 1 _ rfl 1 1 rfl rfl cells2
  obtain ⟨y2, r2, w2⟩ := fO open2 hb hx hlen hf 2 _ rfl 2 1 rfl rfl cells2
  exact ⟨api_Entry.mk y0 y1 y2, (f2_split r0 (f2_split r1 (f2_split r2 (f2_end (by omega)))) : F2 (LR w) _ (cs.drop 0)), w0, w1, w2⟩
theorem open124 : Op 124 (eL 3 enc_api_Entry) (wfLU wfU_api_Entry) := fun h hb => open_sU (B := sml) sml_slice enc_api_Entry wfU_api_Entry 3 Tryz.underlying124 cells255 (by decide) (fun _ => rfl) (fun _ _ _ h hb => open255 h hb) h hb
theorem open126 : Op 126 enc_api_Ranks wfU_api_Ranks := by
  intro H _ w _ _ _ _ cs _ h hb
  obtain ⟨xs, n, _, hx, hl, hlen, hf⟩ := DataW.trod_struct Tryz.underlying126 h
  rw [cells126] at hl
  obtain ⟨y0, r0, w0⟩ := fO open2 hb hx hlen hf 0 _ rfl 0 1 rfl rfl cells2
  obtain ⟨y1, r1, w1⟩ := fO open124 hb hx hlen hf 1 _ rfl 1 1 rfl rfl cells124
  exact ⟨api_Ranks.mk y0 y1, (f2_split r0 (f2_split r1 (f2_end (by omega))) : F2 (LR w) _ (cs.drop 0)), w0, w1⟩
theorem open128 : Op 128 enc_api_Block wfU_api_Block := by
  intro H _ w _ _ _ _ cs _ h hb
  obtain ⟨xs, n, _, hx, hl, hlen, hf⟩ := DataW.trod_struct Tryz.underlying128 h
  rw [cells128] at hl
  obtain ⟨y0, r0, w0⟩ := fO open2 hb hx hlen hf 0 _ rfl 0 1 rfl rfl cells2
  obtain ⟨y1, r1, w1⟩ := fO open2 hb hx hlen hf 1 _ rfl 1 1 rfl rfl cells2
  obtain ⟨y2, r2, w2⟩ := fO open3 hb hx hlen hf 2 _ rfl 2 1 rfl rfl cells3
  obtain ⟨y3, r3, w3⟩ := fO open126 hb hx hlen hf 3 _ rfl 3 2 rfl rfl cells126
  exact ⟨api_Block.mk y0 y1 y2 y3, (f2_split r0 (f2_split r1 (f2_split r2 (f2_split r3 (f2_end (by omega))))) : F2 (LR w) _ (cs.drop 0)), w0, w1, w2, w3⟩
theorem open57 : Op 57 (eL 5 enc_api_Block) (wfLU wfU_api_Block) := fun h hb => open_sU (B := sml) sml_slice enc_api_Block wfU_api_Block 5 Tryz.underlying57 cells128 (by decide) (fun _ => rfl) (fun _ _ _ h hb => open128 h hb) h hb
theorem open59 : Op 59 enc_api_Quantile wfU_api_Quantile := by
  intro H _ w _ _ _ _ cs _ h hb
  obtain ⟨xs, n, _, hx, hl, hlen, hf⟩ := DataW.trod_struct Tryz.underlying59 h
  rw [cells59] at hl
  obtain ⟨y0, r0, w0⟩ := fO open2 hb hx hlen hf 0 _ rfl 0 1 rfl rfl cells2
  obtain ⟨y1, r1, w1⟩ := fO open3 hb hx hlen hf 1 _ rfl 1 1 rfl rfl cells3
  obtain ⟨y2, r2, w2⟩ := fO open3 hb hx hlen hf 2 _ rfl 2 1 rfl rfl cells3
  obtain ⟨y3, r3, w3⟩ := fO open2 hb hx hlen hf 3 _ rfl 3 1 rfl rfl cells2
  obtain ⟨y4, r4, w4⟩ := fO open57 hb hx hlen hf 4 _ rfl 4 1 rfl rfl cells57
  exact ⟨api_Quantile.mk y0 y1 y2 y3 y4, (f2_split r0 (f2_split r1 (f2_split r2 (f2_split r3 (f2_split r4 (f2_end (by omega)))))) : F2 (LR w) _ (cs.drop 0)), w0, w1, w2, w3, w4⟩
theorem open61 : Op 61 enc_api_Synopsis wfU_api_Synopsis := by
  intro H _ w _ _ _ _ cs _ h hb
  obtain ⟨xs, n, _, hx, hl, hlen, hf⟩ := DataW.trod_struct Tryz.underlying61 h
  rw [cells61] at hl
  obtain ⟨y0, r0, w0⟩ := fO open30 hb hx hlen hf 0 _ rfl 0 8 rfl rfl cells30
  obtain ⟨y1, r1, w1⟩ := fO open33 hb hx hlen hf 1 _ rfl 8 4 rfl rfl cells33
  obtain ⟨y2, r2, w2⟩ := fO open36 hb hx hlen hf 2 _ rfl 12 5 rfl rfl cells36
  obtain ⟨y3, r3, w3⟩ := fO open38 hb hx hlen hf 3 _ rfl 17 6 rfl rfl cells38
  obtain ⟨y4, r4, w4⟩ := fO open41 hb hx hlen hf 4 _ rfl 23 7 rfl rfl cells41
  obtain ⟨y5, r5, w5⟩ := fO open43 hb hx hlen hf 5 _ rfl 30 6 rfl rfl cells43
  obtain ⟨y6, r6, w6⟩ := fO open46 hb hx hlen hf 6 _ rfl 36 4 rfl rfl cells46
  obtain ⟨y7, r7, w7⟩ := fO open48 hb hx hlen hf 7 _ rfl 40 2 rfl rfl cells48
  obtain ⟨y8, r8, w8⟩ := fO open50 hb hx hlen hf 8 _ rfl 42 5 rfl rfl cells50
  obtain ⟨y9, r9, w9⟩ := fO open53 hb hx hlen hf 9 _ rfl 47 1 rfl rfl cells53
  obtain ⟨y10, r10, w10⟩ := fO open56 hb hx hlen hf 10 _ rfl 48 4 rfl rfl cells56
  obtain ⟨y11, r11, w11⟩ := fO open59 hb hx hlen hf 11 _ rfl 52 5 rfl rfl cells59
  exact ⟨api_Synopsis.mk y0 y1 y2 y3 y4 y5 y6 y7 y8 y9 y10 y11, (f2_split r0 (f2_split r1 (f2_split r2 (f2_split r3 (f2_split r4 (f2_split r5 (f2_split r6 (f2_split r7 (f2_split r8 (f2_split r9 (f2_split r10 (f2_split r11 (f2_end (by omega))))))))))))) : F2 (LR w) _ (cs.drop 0)), w0, w1, w2, w3, w4, w5, w6, w7, w8, w9, w10, w11⟩

theorem walk (w : World) (p0 : api_Synopsis) (c0 : Array Value) (r0 : F2 (LR w) (enc_api_Synopsis p0) c0.toList) (w0 : wfU_api_Synopsis p0) : Calls Tryz.prog 6 #[.agg c0] w fun e w' => e = .returned (.bool true) ∧ Below w.heap.size w w' :=
  (c_law25_SynopsisValidate p0 true (law25_SynopsisValidate_upto p0 w0)).law2 Tryz.call6 w _ rfl (fun i c hi => by
    match i, hi with
    | 0, hi => cases hi; exact ⟨_, rfl, vr1_struct r0⟩)

set_option maxRecDepth 100000 in
theorem lifted (os : Os) (started : os.Started) (H : Type) (enc : TypeId × Value → H) (F : Stop.Interp) :
    ReturnsInHanded {} Tryz.checked os 6 .any ((Rows.OpenSpec.upto Rows.synopsisValidateSpec).pre6 enc Tryz.prog Tryz.f6 Rows.synopsisValidateUptoRow.domain false) (((Rows.OpenSpec.upto Rows.synopsisValidateSpec).at F).post enc Tryz.prog Tryz.f6 false true false false) := by
  refine returnsInHanded_of_cond (C := Tryz.checked) (s := Rows.OpenSpec.upto Rows.synopsisValidateSpec) (k := Rows.uptoSmall) rfl own started (by kernel_rfl) Tryz.func6
    (OpenSpec.witness (enc := enc) (C := Tryz.checked) (s := Rows.OpenSpec.upto Rows.synopsisValidateSpec) (k := Rows.uptoSmall) rfl false ⟨#[], #[.agg #[.int .i64 0, .int .i64 0, .int .i64 0, .int .i64 0, .int .i64 0, .int .i64 0, .int .i64 0, .int .i64 0, .int .i64 0, .int .i64 0, .int .i64 0, .slice none 0 0, .int .i64 0, .int .i64 0, .int .i64 0, .int .i64 0, .slice none 0 0, .int .i64 0, .int .i64 0, .int .i64 0, .int .i64 0, .int .i64 0, .slice none 0 0, .int .i64 0, .int .i64 0, .int .i64 0, .int .i64 0, .int .i64 0, .int .i64 0, .slice none 0 0, .int .i64 0, .int .i64 0, .int .i64 0, .int .i64 0, .int .i64 0, .slice none 0 0, .int .i64 0, .int .i64 0, .int .i64 0, .slice none 0 0, .int .i64 0, .slice none 0 0, .bool false, .int .i64 0, .int .i64 0, .int .i64 0, .slice none 0 0, .slice none 0 0, .int .i64 0, .int .i64 0, .int .i64 0, .slice none 0 0, .int .i64 0, .int .i64 0, .int .i64 0, .int .i64 0, .slice none 0 0]], []⟩ 8 (by kernel_rfl) (by kernel_rfl) (by kernel_rfl)
      (x := ([.agg [.agg [.lit (.int .i64 0), .lit (.int .i64 0), .lit (.int .i64 0), .lit (.int .i64 0), .lit (.int .i64 0), .lit (.int .i64 0), .lit (.int .i64 0), .lit (.int .i64 0)], .agg [.lit (.int .i64 0), .lit (.int .i64 0), .lit (.int .i64 0), .nil], .agg [.lit (.int .i64 0), .lit (.int .i64 0), .lit (.int .i64 0), .lit (.int .i64 0), .nil], .agg [.lit (.int .i64 0), .lit (.int .i64 0), .lit (.int .i64 0), .lit (.int .i64 0), .lit (.int .i64 0), .nil], .agg [.lit (.int .i64 0), .lit (.int .i64 0), .lit (.int .i64 0), .lit (.int .i64 0), .lit (.int .i64 0), .lit (.int .i64 0), .nil], .agg [.lit (.int .i64 0), .lit (.int .i64 0), .lit (.int .i64 0), .lit (.int .i64 0), .lit (.int .i64 0), .nil], .agg [.lit (.int .i64 0), .lit (.int .i64 0), .lit (.int .i64 0), .nil], .agg [.lit (.int .i64 0), .nil], .agg [.lit (.bool false), .lit (.int .i64 0), .lit (.int .i64 0), .lit (.int .i64 0), .nil], .agg [.nil], .agg [.lit (.int .i64 0), .lit (.int .i64 0), .lit (.int .i64 0), .nil], .agg [.lit (.int .i64 0), .lit (.int .i64 0), .lit (.int .i64 0), .lit (.int .i64 0), .nil]]], [], [])) (by kernel_rfl) rfl (by kernel_rfl)) ?_
  intro W base args ds gs before hval0 hW hcnd hk _
  have hval : ∀ (j : Nat) t v, Tryz.f6.params[j]? = some t → args[j]? = some v → Value.okWide Tryz.prog W .any base t v := hval0
  have hW' := hW
  obtain ⟨p, q, hA0, hV, rfl, hfz, hnd⟩ := hW
  have hA : DataW.TrodAll enc Tryz.prog W 0 (fun _ => true) true Tryz.f6.params.toList args.toList ds p := hA0
  rw [Tryz.params6] at hA hval
  obtain ⟨v0, vs0, d0, ds0, pl0, q0, hargs, rfl, rfl, h0, r0⟩ := trodAll_cons hA
  obtain ⟨rfl, rfl, rfl⟩ := trodAll_nil r0
  obtain rfl : args = #[v0] := by cases args; simp_all
  obtain ⟨rfl, rfl⟩ := trodVars_none hV
  obtain ⟨cs0, rfl, _⟩ := okWide_struct Tryz.underlying61 (hval 0 61 v0 rfl rfl)
  have hk0 := h0
  obtain ⟨fuel0, hf0⟩ := h0
  obtain ⟨a0, ra0, wa0⟩ := open61 hf0 (sml_of hk (by simp))
  clear hA0 hval0
  simp only [List.append_nil, List.nil_append] at hW'
  have hlt0 : ∀ x ∈ pl0, x.block < W.heap.size := fun x hx => hW'.lt x (by simp [hx])
  refine (walk W a0 _ ra0 wa0).mono fun e W' ⟨he, hb⟩ => ?_
  subst he
  exact ⟨_, rfl, post_of_below (pa := pl0) (pv := []) hW' (fun _ _ _ => (trodAll_cons_mk (shut_bool Tryz.underlying4 _) trodAll_mk0))
    (fun sp hsp => by
      have : DataW.TrodAll enc Tryz.prog W' 0 sp true [61] [Value.agg cs0] [d0] _ := (trodAll_cons_mk (arg_stays laidOut (by kernel_rfl) (of_decide_eq_true (by kernel_rfl)) hk0 hb hlt0 (fun x hx => hsp x (by simp [hx]))) trodAll_mk0)
      have h2 : DataW.TrodAll enc Tryz.prog W' 0 sp true [61] [Value.agg cs0] [d0] (pl0) := by simpa using this
      exact h2) (fun _ _ => rfl) (by simp) hb
    (ok_one (by kernel_rfl) rfl (okWide_bool_mk Tryz.underlying4 _))⟩

theorem named : Tryz.pinned.checked.prog.funcNamed Rows.synopsisValidateUptoRow.func = some 6 := by kernel_rfl
theorem inst : Tryz.f6.isInstance Tryz.pinned.checked.prog Rows.synopsisValidateUptoRow.origin Rows.synopsisValidateUptoRow.targs := of_decide_eq_true (by kernel_rfl)
theorem wrap : Tryz.f6.isWrapper Tryz.pinned.checked.prog Rows.synopsisValidateUptoRow.wrapper Rows.synopsisValidateUptoRow.mainSum := by unfold Func.isWrapper; first | (rw [if_pos (by decide +kernel)]; kernel_rfl) | (rw [if_neg (by decide +kernel)]; exact ⟨rfl, rfl⟩)
theorem over : Rows.synopsisValidateUptoRow.holds Tryz.pinned (Rows.OpenSpec.upto Rows.synopsisValidateSpec) :=
  OpenClaim.holds_of_cond 6 Tryz.f6 rfl rfl rfl rfl rfl rfl rfl ⟨rfl, rfl, rfl, rfl, rfl⟩ rfl rfl rfl rfl rfl named Tryz.func6 joined inst wrap
    (fun os started H enc _ F => lifted os started H enc F)

theorem proved : Rows.SynopsisValidateUptoSaid :=
  over
#print axioms proved
end Go.Proofs.YtinffhpeahlhoaaGreat.synopsisValidate
