/- The law RegistryFind of package windowpanelaw26 answers true at every input, and leaves its arguments as they were. Conditions: none. -/
import Derived.Test.YtinffhpeahlhoaaRows
import Derived.Test.YtinffhpeahlhoaaCon
import Derived.Test.YtinffhpeahlhoaaVc
import Derived.Test.YtinffhpeahlhoaaPuFind
import Derived.ProofKit
import Derived.OpenShut
set_option linter.unusedVariables false
namespace Go.Proofs.Ytinffhpeahlhoaa.registryFind
open Go.Vc Go.Dec Go.Win Go.ChangeShapes Go.WideShapes Go.ChangeAt Go.RowKit

theorem own : ownKnob Try.prog.godebug = none := by kernel_rfl
theorem laidOut : laidOutB Try.prog = true := by kernel_rfl
theorem cells2 : Try.prog.cellsOf 2 = 1 := by kernel_rfl
theorem cells3 : Try.prog.cellsOf 3 = 1 := by kernel_rfl
theorem cells31 : Try.prog.cellsOf 31 = 8 := by kernel_rfl
theorem cells131 : Try.prog.cellsOf 131 = 2 := by kernel_rfl
theorem cells32 : Try.prog.cellsOf 32 = 1 := by kernel_rfl
theorem cells34 : Try.prog.cellsOf 34 = 4 := by kernel_rfl
theorem cells136 : Try.prog.cellsOf 136 = 2 := by kernel_rfl
theorem cells35 : Try.prog.cellsOf 35 = 1 := by kernel_rfl
theorem cells37 : Try.prog.cellsOf 37 = 5 := by kernel_rfl
theorem cells39 : Try.prog.cellsOf 39 = 6 := by kernel_rfl
theorem cells142 : Try.prog.cellsOf 142 = 7 := by kernel_rfl
theorem cells40 : Try.prog.cellsOf 40 = 1 := by kernel_rfl
theorem cells42 : Try.prog.cellsOf 42 = 7 := by kernel_rfl
theorem cells44 : Try.prog.cellsOf 44 = 6 := by kernel_rfl
theorem cells145 : Try.prog.cellsOf 145 = 1 := by kernel_rfl
theorem cells147 : Try.prog.cellsOf 147 = 2 := by kernel_rfl
theorem cells45 : Try.prog.cellsOf 45 = 1 := by kernel_rfl
theorem cells47 : Try.prog.cellsOf 47 = 4 := by kernel_rfl
theorem cells28 : Try.prog.cellsOf 28 = 1 := by kernel_rfl
theorem cells49 : Try.prog.cellsOf 49 = 2 := by kernel_rfl
theorem cells4 : Try.prog.cellsOf 4 = 1 := by kernel_rfl
theorem cells51 : Try.prog.cellsOf 51 = 5 := by kernel_rfl
theorem cells171 : Try.prog.cellsOf 171 = 2 := by kernel_rfl
theorem cells108 : Try.prog.cellsOf 108 = 1 := by kernel_rfl
theorem cells110 : Try.prog.cellsOf 110 = 5 := by kernel_rfl
theorem cells52 : Try.prog.cellsOf 52 = 1 := by kernel_rfl
theorem cells54 : Try.prog.cellsOf 54 = 1 := by kernel_rfl
theorem cells156 : Try.prog.cellsOf 156 = 3 := by kernel_rfl
theorem cells55 : Try.prog.cellsOf 55 = 1 := by kernel_rfl
theorem cells57 : Try.prog.cellsOf 57 = 4 := by kernel_rfl
theorem cells177 : Try.prog.cellsOf 177 = 3 := by kernel_rfl
theorem cells159 : Try.prog.cellsOf 159 = 1 := by kernel_rfl
theorem cells161 : Try.prog.cellsOf 161 = 2 := by kernel_rfl
theorem cells163 : Try.prog.cellsOf 163 = 5 := by kernel_rfl
theorem cells58 : Try.prog.cellsOf 58 = 1 := by kernel_rfl
theorem cells60 : Try.prog.cellsOf 60 = 5 := by kernel_rfl
theorem cells62 : Try.prog.cellsOf 62 = 57 := by kernel_rfl
theorem cells72 : Try.prog.cellsOf 72 = 58 := by kernel_rfl
theorem cells22 : Try.prog.cellsOf 22 = 1 := by kernel_rfl

theorem open2 {H : Type} {enc : TypeId × Value → H} {w : World} {base : Nat} {spare : Nat → Bool} {held : Bool} {fuel : Nat} {cs : List Value} {x : DataW H × List MemPlace} (h : DataW.trod enc Try.prog w base spare held fuel 2 cs = some x) : ∃ y : Int, F2 (LR w) (eI .i64 y) cs ∧ wfI .i64 y := open_i Try.underlying2 h
theorem open3 {H : Type} {enc : TypeId × Value → H} {w : World} {base : Nat} {spare : Nat → Bool} {held : Bool} {fuel : Nat} {cs : List Value} {x : DataW H × List MemPlace} (h : DataW.trod enc Try.prog w base spare held fuel 3 cs = some x) : ∃ y : Int, F2 (LR w) (eI .i64 y) cs ∧ wfI .i64 y := open_i Try.underlying3 h
theorem open31 {H : Type} {enc : TypeId × Value → H} {w : World} {base : Nat} {spare : Nat → Bool} {held : Bool} {fuel : Nat} {cs : List Value} {x : DataW H × List MemPlace} (h : DataW.trod enc Try.prog w base spare held fuel 31 cs = some x) : ∃ y : api_Config, F2 (LR w) (enc_api_Config y) cs ∧ wf_api_Config y := by
  obtain ⟨xs, n, _, _, hl, hlen, hf⟩ := DataW.trod_struct Try.underlying31 h
  rw [cells31] at hl
  obtain ⟨z0, g0⟩ := fieldS hlen hf 0 _ rfl 0 1 (t := 3) rfl rfl cells3
  obtain ⟨y0, r0, w0⟩ := open3 g0
  obtain ⟨z1, g1⟩ := fieldS hlen hf 1 _ rfl 1 1 (t := 3) rfl rfl cells3
  obtain ⟨y1, r1, w1⟩ := open3 g1
  obtain ⟨z2, g2⟩ := fieldS hlen hf 2 _ rfl 2 1 (t := 2) rfl rfl cells2
  obtain ⟨y2, r2, w2⟩ := open2 g2
  obtain ⟨z3, g3⟩ := fieldS hlen hf 3 _ rfl 3 1 (t := 3) rfl rfl cells3
  obtain ⟨y3, r3, w3⟩ := open3 g3
  obtain ⟨z4, g4⟩ := fieldS hlen hf 4 _ rfl 4 1 (t := 3) rfl rfl cells3
  obtain ⟨y4, r4, w4⟩ := open3 g4
  obtain ⟨z5, g5⟩ := fieldS hlen hf 5 _ rfl 5 1 (t := 3) rfl rfl cells3
  obtain ⟨y5, r5, w5⟩ := open3 g5
  obtain ⟨z6, g6⟩ := fieldS hlen hf 6 _ rfl 6 1 (t := 3) rfl rfl cells3
  obtain ⟨y6, r6, w6⟩ := open3 g6
  obtain ⟨z7, g7⟩ := fieldS hlen hf 7 _ rfl 7 1 (t := 2) rfl rfl cells2
  obtain ⟨y7, r7, w7⟩ := open2 g7
  exact ⟨api_Config.mk y0 y1 y2 y3 y4 y5 y6 y7, (f2_split r0 (f2_split r1 (f2_split r2 (f2_split r3 (f2_split r4 (f2_split r5 (f2_split r6 (f2_split r7 (f2_end (by omega))))))))) : F2 (LR w) _ (cs.drop 0)), w0, w1, w2, w3, w4, w5, w6, w7⟩
theorem open131 {H : Type} {enc : TypeId × Value → H} {w : World} {base : Nat} {spare : Nat → Bool} {held : Bool} {fuel : Nat} {cs : List Value} {x : DataW H × List MemPlace} (h : DataW.trod enc Try.prog w base spare held fuel 131 cs = some x) : ∃ y : api_Item, F2 (LR w) (enc_api_Item y) cs ∧ wf_api_Item y := by
  obtain ⟨xs, n, _, _, hl, hlen, hf⟩ := DataW.trod_struct Try.underlying131 h
  rw [cells131] at hl
  obtain ⟨z0, g0⟩ := fieldS hlen hf 0 _ rfl 0 1 (t := 2) rfl rfl cells2
  obtain ⟨y0, r0, w0⟩ := open2 g0
  obtain ⟨z1, g1⟩ := fieldS hlen hf 1 _ rfl 1 1 (t := 2) rfl rfl cells2
  obtain ⟨y1, r1, w1⟩ := open2 g1
  exact ⟨api_Item.mk y0 y1, (f2_split r0 (f2_split r1 (f2_end (by omega))) : F2 (LR w) _ (cs.drop 0)), w0, w1⟩
theorem open32 {H : Type} {enc : TypeId × Value → H} {w : World} {base : Nat} {spare : Nat → Bool} {held : Bool} {fuel : Nat} {cs : List Value} {x : DataW H × List MemPlace} (h : DataW.trod enc Try.prog w base spare held fuel 32 cs = some x) : ∃ y : (List api_Item), F2 (LR w) (eL 2 enc_api_Item y) cs ∧ (wfL wf_api_Item) y :=
  open_s enc_api_Item wf_api_Item 2 Try.underlying32 cells131 (by decide) (fun _ => rfl) (fun _ _ _ h => open131 h) h
theorem open34 {H : Type} {enc : TypeId × Value → H} {w : World} {base : Nat} {spare : Nat → Bool} {held : Bool} {fuel : Nat} {cs : List Value} {x : DataW H × List MemPlace} (h : DataW.trod enc Try.prog w base spare held fuel 34 cs = some x) : ∃ y : api_Recent, F2 (LR w) (enc_api_Recent y) cs ∧ wf_api_Recent y := by
  obtain ⟨xs, n, _, _, hl, hlen, hf⟩ := DataW.trod_struct Try.underlying34 h
  rw [cells34] at hl
  obtain ⟨z0, g0⟩ := fieldS hlen hf 0 _ rfl 0 1 (t := 2) rfl rfl cells2
  obtain ⟨y0, r0, w0⟩ := open2 g0
  obtain ⟨z1, g1⟩ := fieldS hlen hf 1 _ rfl 1 1 (t := 3) rfl rfl cells3
  obtain ⟨y1, r1, w1⟩ := open3 g1
  obtain ⟨z2, g2⟩ := fieldS hlen hf 2 _ rfl 2 1 (t := 2) rfl rfl cells2
  obtain ⟨y2, r2, w2⟩ := open2 g2
  obtain ⟨z3, g3⟩ := fieldS hlen hf 3 _ rfl 3 1 (t := 32) rfl rfl cells32
  obtain ⟨y3, r3, w3⟩ := open32 g3
  exact ⟨api_Recent.mk y0 y1 y2 y3, (f2_split r0 (f2_split r1 (f2_split r2 (f2_split r3 (f2_end (by omega))))) : F2 (LR w) _ (cs.drop 0)), w0, w1, w2, w3⟩
theorem open136 {H : Type} {enc : TypeId × Value → H} {w : World} {base : Nat} {spare : Nat → Bool} {held : Bool} {fuel : Nat} {cs : List Value} {x : DataW H × List MemPlace} (h : DataW.trod enc Try.prog w base spare held fuel 136 cs = some x) : ∃ y : api_Bucket, F2 (LR w) (enc_api_Bucket y) cs ∧ wf_api_Bucket y := by
  obtain ⟨xs, n, _, _, hl, hlen, hf⟩ := DataW.trod_struct Try.underlying136 h
  rw [cells136] at hl
  obtain ⟨z0, g0⟩ := fieldS hlen hf 0 _ rfl 0 1 (t := 2) rfl rfl cells2
  obtain ⟨y0, r0, w0⟩ := open2 g0
  obtain ⟨z1, g1⟩ := fieldS hlen hf 1 _ rfl 1 1 (t := 3) rfl rfl cells3
  obtain ⟨y1, r1, w1⟩ := open3 g1
  exact ⟨api_Bucket.mk y0 y1, (f2_split r0 (f2_split r1 (f2_end (by omega))) : F2 (LR w) _ (cs.drop 0)), w0, w1⟩
theorem open35 {H : Type} {enc : TypeId × Value → H} {w : World} {base : Nat} {spare : Nat → Bool} {held : Bool} {fuel : Nat} {cs : List Value} {x : DataW H × List MemPlace} (h : DataW.trod enc Try.prog w base spare held fuel 35 cs = some x) : ∃ y : (List api_Bucket), F2 (LR w) (eL 2 enc_api_Bucket y) cs ∧ (wfL wf_api_Bucket) y :=
  open_s enc_api_Bucket wf_api_Bucket 2 Try.underlying35 cells136 (by decide) (fun _ => rfl) (fun _ _ _ h => open136 h) h
theorem open37 {H : Type} {enc : TypeId × Value → H} {w : World} {base : Nat} {spare : Nat → Bool} {held : Bool} {fuel : Nat} {cs : List Value} {x : DataW H × List MemPlace} (h : DataW.trod enc Try.prog w base spare held fuel 37 cs = some x) : ∃ y : api_Count, F2 (LR w) (enc_api_Count y) cs ∧ wf_api_Count y := by
  obtain ⟨xs, n, _, _, hl, hlen, hf⟩ := DataW.trod_struct Try.underlying37 h
  rw [cells37] at hl
  obtain ⟨z0, g0⟩ := fieldS hlen hf 0 _ rfl 0 1 (t := 2) rfl rfl cells2
  obtain ⟨y0, r0, w0⟩ := open2 g0
  obtain ⟨z1, g1⟩ := fieldS hlen hf 1 _ rfl 1 1 (t := 3) rfl rfl cells3
  obtain ⟨y1, r1, w1⟩ := open3 g1
  obtain ⟨z2, g2⟩ := fieldS hlen hf 2 _ rfl 2 1 (t := 3) rfl rfl cells3
  obtain ⟨y2, r2, w2⟩ := open3 g2
  obtain ⟨z3, g3⟩ := fieldS hlen hf 3 _ rfl 3 1 (t := 2) rfl rfl cells2
  obtain ⟨y3, r3, w3⟩ := open2 g3
  obtain ⟨z4, g4⟩ := fieldS hlen hf 4 _ rfl 4 1 (t := 35) rfl rfl cells35
  obtain ⟨y4, r4, w4⟩ := open35 g4
  exact ⟨api_Count.mk y0 y1 y2 y3 y4, (f2_split r0 (f2_split r1 (f2_split r2 (f2_split r3 (f2_split r4 (f2_end (by omega)))))) : F2 (LR w) _ (cs.drop 0)), w0, w1, w2, w3, w4⟩
theorem open39 {H : Type} {enc : TypeId × Value → H} {w : World} {base : Nat} {spare : Nat → Bool} {held : Bool} {fuel : Nat} {cs : List Value} {x : DataW H × List MemPlace} (h : DataW.trod enc Try.prog w base spare held fuel 39 cs = some x) : ∃ y : api_Sum, F2 (LR w) (enc_api_Sum y) cs ∧ wf_api_Sum y := by
  obtain ⟨xs, n, _, _, hl, hlen, hf⟩ := DataW.trod_struct Try.underlying39 h
  rw [cells39] at hl
  obtain ⟨z0, g0⟩ := fieldS hlen hf 0 _ rfl 0 1 (t := 2) rfl rfl cells2
  obtain ⟨y0, r0, w0⟩ := open2 g0
  obtain ⟨z1, g1⟩ := fieldS hlen hf 1 _ rfl 1 1 (t := 3) rfl rfl cells3
  obtain ⟨y1, r1, w1⟩ := open3 g1
  obtain ⟨z2, g2⟩ := fieldS hlen hf 2 _ rfl 2 1 (t := 3) rfl rfl cells3
  obtain ⟨y2, r2, w2⟩ := open3 g2
  obtain ⟨z3, g3⟩ := fieldS hlen hf 3 _ rfl 3 1 (t := 3) rfl rfl cells3
  obtain ⟨y3, r3, w3⟩ := open3 g3
  obtain ⟨z4, g4⟩ := fieldS hlen hf 4 _ rfl 4 1 (t := 2) rfl rfl cells2
  obtain ⟨y4, r4, w4⟩ := open2 g4
  obtain ⟨z5, g5⟩ := fieldS hlen hf 5 _ rfl 5 1 (t := 35) rfl rfl cells35
  obtain ⟨y5, r5, w5⟩ := open35 g5
  exact ⟨api_Sum.mk y0 y1 y2 y3 y4 y5, (f2_split r0 (f2_split r1 (f2_split r2 (f2_split r3 (f2_split r4 (f2_split r5 (f2_end (by omega))))))) : F2 (LR w) _ (cs.drop 0)), w0, w1, w2, w3, w4, w5⟩
theorem open142 {H : Type} {enc : TypeId × Value → H} {w : World} {base : Nat} {spare : Nat → Bool} {held : Bool} {fuel : Nat} {cs : List Value} {x : DataW H × List MemPlace} (h : DataW.trod enc Try.prog w base spare held fuel 142 cs = some x) : ∃ y : api_Mark, F2 (LR w) (enc_api_Mark y) cs ∧ wf_api_Mark y := by
  obtain ⟨xs, n, _, _, hl, hlen, hf⟩ := DataW.trod_struct Try.underlying142 h
  rw [cells142] at hl
  obtain ⟨z0, g0⟩ := fieldS hlen hf 0 _ rfl 0 1 (t := 2) rfl rfl cells2
  obtain ⟨y0, r0, w0⟩ := open2 g0
  obtain ⟨z1, g1⟩ := fieldS hlen hf 1 _ rfl 1 1 (t := 2) rfl rfl cells2
  obtain ⟨y1, r1, w1⟩ := open2 g1
  obtain ⟨z2, g2⟩ := fieldS hlen hf 2 _ rfl 2 1 (t := 2) rfl rfl cells2
  obtain ⟨y2, r2, w2⟩ := open2 g2
  obtain ⟨z3, g3⟩ := fieldS hlen hf 3 _ rfl 3 1 (t := 2) rfl rfl cells2
  obtain ⟨y3, r3, w3⟩ := open2 g3
  obtain ⟨z4, g4⟩ := fieldS hlen hf 4 _ rfl 4 1 (t := 2) rfl rfl cells2
  obtain ⟨y4, r4, w4⟩ := open2 g4
  obtain ⟨z5, g5⟩ := fieldS hlen hf 5 _ rfl 5 1 (t := 2) rfl rfl cells2
  obtain ⟨y5, r5, w5⟩ := open2 g5
  obtain ⟨z6, g6⟩ := fieldS hlen hf 6 _ rfl 6 1 (t := 2) rfl rfl cells2
  obtain ⟨y6, r6, w6⟩ := open2 g6
  exact ⟨api_Mark.mk y0 y1 y2 y3 y4 y5 y6, (f2_split r0 (f2_split r1 (f2_split r2 (f2_split r3 (f2_split r4 (f2_split r5 (f2_split r6 (f2_end (by omega)))))))) : F2 (LR w) _ (cs.drop 0)), w0, w1, w2, w3, w4, w5, w6⟩
theorem open40 {H : Type} {enc : TypeId × Value → H} {w : World} {base : Nat} {spare : Nat → Bool} {held : Bool} {fuel : Nat} {cs : List Value} {x : DataW H × List MemPlace} (h : DataW.trod enc Try.prog w base spare held fuel 40 cs = some x) : ∃ y : (List api_Mark), F2 (LR w) (eL 7 enc_api_Mark y) cs ∧ (wfL wf_api_Mark) y :=
  open_s enc_api_Mark wf_api_Mark 7 Try.underlying40 cells142 (by decide) (fun _ => rfl) (fun _ _ _ h => open142 h) h
theorem open42 {H : Type} {enc : TypeId × Value → H} {w : World} {base : Nat} {spare : Nat → Bool} {held : Bool} {fuel : Nat} {cs : List Value} {x : DataW H × List MemPlace} (h : DataW.trod enc Try.prog w base spare held fuel 42 cs = some x) : ∃ y : api_Smooth, F2 (LR w) (enc_api_Smooth y) cs ∧ wf_api_Smooth y := by
  obtain ⟨xs, n, _, _, hl, hlen, hf⟩ := DataW.trod_struct Try.underlying42 h
  rw [cells42] at hl
  obtain ⟨z0, g0⟩ := fieldS hlen hf 0 _ rfl 0 1 (t := 3) rfl rfl cells3
  obtain ⟨y0, r0, w0⟩ := open3 g0
  obtain ⟨z1, g1⟩ := fieldS hlen hf 1 _ rfl 1 1 (t := 2) rfl rfl cells2
  obtain ⟨y1, r1, w1⟩ := open2 g1
  obtain ⟨z2, g2⟩ := fieldS hlen hf 2 _ rfl 2 1 (t := 3) rfl rfl cells3
  obtain ⟨y2, r2, w2⟩ := open3 g2
  obtain ⟨z3, g3⟩ := fieldS hlen hf 3 _ rfl 3 1 (t := 3) rfl rfl cells3
  obtain ⟨y3, r3, w3⟩ := open3 g3
  obtain ⟨z4, g4⟩ := fieldS hlen hf 4 _ rfl 4 1 (t := 2) rfl rfl cells2
  obtain ⟨y4, r4, w4⟩ := open2 g4
  obtain ⟨z5, g5⟩ := fieldS hlen hf 5 _ rfl 5 1 (t := 2) rfl rfl cells2
  obtain ⟨y5, r5, w5⟩ := open2 g5
  obtain ⟨z6, g6⟩ := fieldS hlen hf 6 _ rfl 6 1 (t := 40) rfl rfl cells40
  obtain ⟨y6, r6, w6⟩ := open40 g6
  exact ⟨api_Smooth.mk y0 y1 y2 y3 y4 y5 y6, (f2_split r0 (f2_split r1 (f2_split r2 (f2_split r3 (f2_split r4 (f2_split r5 (f2_split r6 (f2_end (by omega)))))))) : F2 (LR w) _ (cs.drop 0)), w0, w1, w2, w3, w4, w5, w6⟩
theorem open44 {H : Type} {enc : TypeId × Value → H} {w : World} {base : Nat} {spare : Nat → Bool} {held : Bool} {fuel : Nat} {cs : List Value} {x : DataW H × List MemPlace} (h : DataW.trod enc Try.prog w base spare held fuel 44 cs = some x) : ∃ y : api_Spread, F2 (LR w) (enc_api_Spread y) cs ∧ wf_api_Spread y := by
  obtain ⟨xs, n, _, _, hl, hlen, hf⟩ := DataW.trod_struct Try.underlying44 h
  rw [cells44] at hl
  obtain ⟨z0, g0⟩ := fieldS hlen hf 0 _ rfl 0 1 (t := 2) rfl rfl cells2
  obtain ⟨y0, r0, w0⟩ := open2 g0
  obtain ⟨z1, g1⟩ := fieldS hlen hf 1 _ rfl 1 1 (t := 3) rfl rfl cells3
  obtain ⟨y1, r1, w1⟩ := open3 g1
  obtain ⟨z2, g2⟩ := fieldS hlen hf 2 _ rfl 2 1 (t := 3) rfl rfl cells3
  obtain ⟨y2, r2, w2⟩ := open3 g2
  obtain ⟨z3, g3⟩ := fieldS hlen hf 3 _ rfl 3 1 (t := 2) rfl rfl cells2
  obtain ⟨y3, r3, w3⟩ := open2 g3
  obtain ⟨z4, g4⟩ := fieldS hlen hf 4 _ rfl 4 1 (t := 2) rfl rfl cells2
  obtain ⟨y4, r4, w4⟩ := open2 g4
  obtain ⟨z5, g5⟩ := fieldS hlen hf 5 _ rfl 5 1 (t := 40) rfl rfl cells40
  obtain ⟨y5, r5, w5⟩ := open40 g5
  exact ⟨api_Spread.mk y0 y1 y2 y3 y4 y5, (f2_split r0 (f2_split r1 (f2_split r2 (f2_split r3 (f2_split r4 (f2_split r5 (f2_end (by omega))))))) : F2 (LR w) _ (cs.drop 0)), w0, w1, w2, w3, w4, w5⟩
theorem open145 {H : Type} {enc : TypeId × Value → H} {w : World} {base : Nat} {spare : Nat → Bool} {held : Bool} {fuel : Nat} {cs : List Value} {x : DataW H × List MemPlace} (h : DataW.trod enc Try.prog w base spare held fuel 145 cs = some x) : ∃ y : Int, F2 (LR w) (eI .u64 y) cs ∧ wfI .u64 y := open_i Try.underlying145 h
theorem open147 {H : Type} {enc : TypeId × Value → H} {w : World} {base : Nat} {spare : Nat → Bool} {held : Bool} {fuel : Nat} {cs : List Value} {x : DataW H × List MemPlace} (h : DataW.trod enc Try.prog w base spare held fuel 147 cs = some x) : ∃ y : api_Wide, F2 (LR w) (enc_api_Wide y) cs ∧ wf_api_Wide y := by
  obtain ⟨xs, n, _, _, hl, hlen, hf⟩ := DataW.trod_struct Try.underlying147 h
  rw [cells147] at hl
  obtain ⟨z0, g0⟩ := fieldS hlen hf 0 _ rfl 0 1 (t := 145) rfl rfl cells145
  obtain ⟨y0, r0, w0⟩ := open145 g0
  obtain ⟨z1, g1⟩ := fieldS hlen hf 1 _ rfl 1 1 (t := 145) rfl rfl cells145
  obtain ⟨y1, r1, w1⟩ := open145 g1
  exact ⟨api_Wide.mk y0 y1, (f2_split r0 (f2_split r1 (f2_end (by omega))) : F2 (LR w) _ (cs.drop 0)), w0, w1⟩
theorem open45 {H : Type} {enc : TypeId × Value → H} {w : World} {base : Nat} {spare : Nat → Bool} {held : Bool} {fuel : Nat} {cs : List Value} {x : DataW H × List MemPlace} (h : DataW.trod enc Try.prog w base spare held fuel 45 cs = some x) : ∃ y : (List api_Wide), F2 (LR w) (eL 2 enc_api_Wide y) cs ∧ (wfL wf_api_Wide) y :=
  open_s enc_api_Wide wf_api_Wide 2 Try.underlying45 cells147 (by decide) (fun _ => rfl) (fun _ _ _ h => open147 h) h
theorem open47 {H : Type} {enc : TypeId × Value → H} {w : World} {base : Nat} {spare : Nat → Bool} {held : Bool} {fuel : Nat} {cs : List Value} {x : DataW H × List MemPlace} (h : DataW.trod enc Try.prog w base spare held fuel 47 cs = some x) : ∃ y : api_Poly, F2 (LR w) (enc_api_Poly y) cs ∧ wf_api_Poly y := by
  obtain ⟨xs, n, _, _, hl, hlen, hf⟩ := DataW.trod_struct Try.underlying47 h
  rw [cells47] at hl
  obtain ⟨z0, g0⟩ := fieldS hlen hf 0 _ rfl 0 1 (t := 3) rfl rfl cells3
  obtain ⟨y0, r0, w0⟩ := open3 g0
  obtain ⟨z1, g1⟩ := fieldS hlen hf 1 _ rfl 1 1 (t := 2) rfl rfl cells2
  obtain ⟨y1, r1, w1⟩ := open2 g1
  obtain ⟨z2, g2⟩ := fieldS hlen hf 2 _ rfl 2 1 (t := 2) rfl rfl cells2
  obtain ⟨y2, r2, w2⟩ := open2 g2
  obtain ⟨z3, g3⟩ := fieldS hlen hf 3 _ rfl 3 1 (t := 45) rfl rfl cells45
  obtain ⟨y3, r3, w3⟩ := open45 g3
  exact ⟨api_Poly.mk y0 y1 y2 y3, (f2_split r0 (f2_split r1 (f2_split r2 (f2_split r3 (f2_end (by omega))))) : F2 (LR w) _ (cs.drop 0)), w0, w1, w2, w3⟩
theorem open28 {H : Type} {enc : TypeId × Value → H} {w : World} {base : Nat} {spare : Nat → Bool} {held : Bool} {fuel : Nat} {cs : List Value} {x : DataW H × List MemPlace} (h : DataW.trod enc Try.prog w base spare held fuel 28 cs = some x) : ∃ y : (List Int), F2 (LR w) (eL 1 (eI .i64) y) cs ∧ (wfL (wfI .i64)) y :=
  open_s (eI .i64) (wfI .i64) 1 Try.underlying28 cells2 (by decide) (fun _ => rfl) (fun _ _ _ h => open2 h) h
theorem open49 {H : Type} {enc : TypeId × Value → H} {w : World} {base : Nat} {spare : Nat → Bool} {held : Bool} {fuel : Nat} {cs : List Value} {x : DataW H × List MemPlace} (h : DataW.trod enc Try.prog w base spare held fuel 49 cs = some x) : ∃ y : api_Halve, F2 (LR w) (enc_api_Halve y) cs ∧ wf_api_Halve y := by
  obtain ⟨xs, n, _, _, hl, hlen, hf⟩ := DataW.trod_struct Try.underlying49 h
  rw [cells49] at hl
  obtain ⟨z0, g0⟩ := fieldS hlen hf 0 _ rfl 0 1 (t := 2) rfl rfl cells2
  obtain ⟨y0, r0, w0⟩ := open2 g0
  obtain ⟨z1, g1⟩ := fieldS hlen hf 1 _ rfl 1 1 (t := 28) rfl rfl cells28
  obtain ⟨y1, r1, w1⟩ := open28 g1
  exact ⟨api_Halve.mk y0 y1, (f2_split r0 (f2_split r1 (f2_end (by omega))) : F2 (LR w) _ (cs.drop 0)), w0, w1⟩
theorem open4 {H : Type} {enc : TypeId × Value → H} {w : World} {base : Nat} {spare : Nat → Bool} {held : Bool} {fuel : Nat} {cs : List Value} {x : DataW H × List MemPlace} (h : DataW.trod enc Try.prog w base spare held fuel 4 cs = some x) : ∃ y : Bool, F2 (LR w) (eB y) cs ∧ True := open_b Try.underlying4 h
theorem open51 {H : Type} {enc : TypeId × Value → H} {w : World} {base : Nat} {spare : Nat → Bool} {held : Bool} {fuel : Nat} {cs : List Value} {x : DataW H × List MemPlace} (h : DataW.trod enc Try.prog w base spare held fuel 51 cs = some x) : ∃ y : api_Extreme, F2 (LR w) (enc_api_Extreme y) cs ∧ wf_api_Extreme y := by
  obtain ⟨xs, n, _, _, hl, hlen, hf⟩ := DataW.trod_struct Try.underlying51 h
  rw [cells51] at hl
  obtain ⟨z0, g0⟩ := fieldS hlen hf 0 _ rfl 0 1 (t := 4) rfl rfl cells4
  obtain ⟨y0, r0, w0⟩ := open4 g0
  obtain ⟨z1, g1⟩ := fieldS hlen hf 1 _ rfl 1 1 (t := 2) rfl rfl cells2
  obtain ⟨y1, r1, w1⟩ := open2 g1
  obtain ⟨z2, g2⟩ := fieldS hlen hf 2 _ rfl 2 1 (t := 3) rfl rfl cells3
  obtain ⟨y2, r2, w2⟩ := open3 g2
  obtain ⟨z3, g3⟩ := fieldS hlen hf 3 _ rfl 3 1 (t := 2) rfl rfl cells2
  obtain ⟨y3, r3, w3⟩ := open2 g3
  obtain ⟨z4, g4⟩ := fieldS hlen hf 4 _ rfl 4 1 (t := 32) rfl rfl cells32
  obtain ⟨y4, r4, w4⟩ := open32 g4
  exact ⟨api_Extreme.mk y0 y1 y2 y3 y4, (f2_split r0 (f2_split r1 (f2_split r2 (f2_split r3 (f2_split r4 (f2_end (by omega)))))) : F2 (LR w) _ (cs.drop 0)), w0, w1, w2, w3, w4⟩
theorem open171 {H : Type} {enc : TypeId × Value → H} {w : World} {base : Nat} {spare : Nat → Bool} {held : Bool} {fuel : Nat} {cs : List Value} {x : DataW H × List MemPlace} (h : DataW.trod enc Try.prog w base spare held fuel 171 cs = some x) : ∃ y : api_Link, F2 (LR w) (enc_api_Link y) cs ∧ wf_api_Link y := by
  obtain ⟨xs, n, _, _, hl, hlen, hf⟩ := DataW.trod_struct Try.underlying171 h
  rw [cells171] at hl
  obtain ⟨z0, g0⟩ := fieldS hlen hf 0 _ rfl 0 1 (t := 2) rfl rfl cells2
  obtain ⟨y0, r0, w0⟩ := open2 g0
  obtain ⟨z1, g1⟩ := fieldS hlen hf 1 _ rfl 1 1 (t := 2) rfl rfl cells2
  obtain ⟨y1, r1, w1⟩ := open2 g1
  exact ⟨api_Link.mk y0 y1, (f2_split r0 (f2_split r1 (f2_end (by omega))) : F2 (LR w) _ (cs.drop 0)), w0, w1⟩
theorem open108 {H : Type} {enc : TypeId × Value → H} {w : World} {base : Nat} {spare : Nat → Bool} {held : Bool} {fuel : Nat} {cs : List Value} {x : DataW H × List MemPlace} (h : DataW.trod enc Try.prog w base spare held fuel 108 cs = some x) : ∃ y : (List api_Link), F2 (LR w) (eL 2 enc_api_Link y) cs ∧ (wfL wf_api_Link) y :=
  open_s enc_api_Link wf_api_Link 2 Try.underlying108 cells171 (by decide) (fun _ => rfl) (fun _ _ _ h => open171 h) h
theorem open110 {H : Type} {enc : TypeId × Value → H} {w : World} {base : Nat} {spare : Nat → Bool} {held : Bool} {fuel : Nat} {cs : List Value} {x : DataW H × List MemPlace} (h : DataW.trod enc Try.prog w base spare held fuel 110 cs = some x) : ∃ y : api_Chain, F2 (LR w) (enc_api_Chain y) cs ∧ wf_api_Chain y := by
  obtain ⟨xs, n, _, _, hl, hlen, hf⟩ := DataW.trod_struct Try.underlying110 h
  rw [cells110] at hl
  obtain ⟨z0, g0⟩ := fieldS hlen hf 0 _ rfl 0 1 (t := 2) rfl rfl cells2
  obtain ⟨y0, r0, w0⟩ := open2 g0
  obtain ⟨z1, g1⟩ := fieldS hlen hf 1 _ rfl 1 1 (t := 3) rfl rfl cells3
  obtain ⟨y1, r1, w1⟩ := open3 g1
  obtain ⟨z2, g2⟩ := fieldS hlen hf 2 _ rfl 2 1 (t := 2) rfl rfl cells2
  obtain ⟨y2, r2, w2⟩ := open2 g2
  obtain ⟨z3, g3⟩ := fieldS hlen hf 3 _ rfl 3 1 (t := 2) rfl rfl cells2
  obtain ⟨y3, r3, w3⟩ := open2 g3
  obtain ⟨z4, g4⟩ := fieldS hlen hf 4 _ rfl 4 1 (t := 108) rfl rfl cells108
  obtain ⟨y4, r4, w4⟩ := open108 g4
  exact ⟨api_Chain.mk y0 y1 y2 y3 y4, (f2_split r0 (f2_split r1 (f2_split r2 (f2_split r3 (f2_split r4 (f2_end (by omega)))))) : F2 (LR w) _ (cs.drop 0)), w0, w1, w2, w3, w4⟩
theorem open52 {H : Type} {enc : TypeId × Value → H} {w : World} {base : Nat} {spare : Nat → Bool} {held : Bool} {fuel : Nat} {cs : List Value} {x : DataW H × List MemPlace} (h : DataW.trod enc Try.prog w base spare held fuel 52 cs = some x) : ∃ y : (List api_Chain), F2 (LR w) (eL 5 enc_api_Chain y) cs ∧ (wfL wf_api_Chain) y :=
  open_s enc_api_Chain wf_api_Chain 5 Try.underlying52 cells110 (by decide) (fun _ => rfl) (fun _ _ _ h => open110 h) h
theorem open54 {H : Type} {enc : TypeId × Value → H} {w : World} {base : Nat} {spare : Nat → Bool} {held : Bool} {fuel : Nat} {cs : List Value} {x : DataW H × List MemPlace} (h : DataW.trod enc Try.prog w base spare held fuel 54 cs = some x) : ∃ y : api_Sample, F2 (LR w) (enc_api_Sample y) cs ∧ wf_api_Sample y := by
  obtain ⟨xs, n, _, _, hl, hlen, hf⟩ := DataW.trod_struct Try.underlying54 h
  rw [cells54] at hl
  obtain ⟨z0, g0⟩ := fieldS hlen hf 0 _ rfl 0 1 (t := 52) rfl rfl cells52
  obtain ⟨y0, r0, w0⟩ := open52 g0
  exact ⟨api_Sample.mk y0, (f2_split r0 (f2_end (by omega)) : F2 (LR w) _ (cs.drop 0)), w0⟩
theorem open156 {H : Type} {enc : TypeId × Value → H} {w : World} {base : Nat} {spare : Nat → Bool} {held : Bool} {fuel : Nat} {cs : List Value} {x : DataW H × List MemPlace} (h : DataW.trod enc Try.prog w base spare held fuel 156 cs = some x) : ∃ y : api_Tuple, F2 (LR w) (enc_api_Tuple y) cs ∧ wf_api_Tuple y := by
  obtain ⟨xs, n, _, _, hl, hlen, hf⟩ := DataW.trod_struct Try.underlying156 h
  rw [cells156] at hl
  obtain ⟨z0, g0⟩ := fieldS hlen hf 0 _ rfl 0 1 (t := 2) rfl rfl cells2
  obtain ⟨y0, r0, w0⟩ := open2 g0
  obtain ⟨z1, g1⟩ := fieldS hlen hf 1 _ rfl 1 1 (t := 2) rfl rfl cells2
  obtain ⟨y1, r1, w1⟩ := open2 g1
  obtain ⟨z2, g2⟩ := fieldS hlen hf 2 _ rfl 2 1 (t := 2) rfl rfl cells2
  obtain ⟨y2, r2, w2⟩ := open2 g2
  exact ⟨api_Tuple.mk y0 y1 y2, (f2_split r0 (f2_split r1 (f2_split r2 (f2_end (by omega)))) : F2 (LR w) _ (cs.drop 0)), w0, w1, w2⟩
theorem open55 {H : Type} {enc : TypeId × Value → H} {w : World} {base : Nat} {spare : Nat → Bool} {held : Bool} {fuel : Nat} {cs : List Value} {x : DataW H × List MemPlace} (h : DataW.trod enc Try.prog w base spare held fuel 55 cs = some x) : ∃ y : (List api_Tuple), F2 (LR w) (eL 3 enc_api_Tuple y) cs ∧ (wfL wf_api_Tuple) y :=
  open_s enc_api_Tuple wf_api_Tuple 3 Try.underlying55 cells156 (by decide) (fun _ => rfl) (fun _ _ _ h => open156 h) h
theorem open57 {H : Type} {enc : TypeId × Value → H} {w : World} {base : Nat} {spare : Nat → Bool} {held : Bool} {fuel : Nat} {cs : List Value} {x : DataW H × List MemPlace} (h : DataW.trod enc Try.prog w base spare held fuel 57 cs = some x) : ∃ y : api_Summary, F2 (LR w) (enc_api_Summary y) cs ∧ wf_api_Summary y := by
  obtain ⟨xs, n, _, _, hl, hlen, hf⟩ := DataW.trod_struct Try.underlying57 h
  rw [cells57] at hl
  obtain ⟨z0, g0⟩ := fieldS hlen hf 0 _ rfl 0 1 (t := 3) rfl rfl cells3
  obtain ⟨y0, r0, w0⟩ := open3 g0
  obtain ⟨z1, g1⟩ := fieldS hlen hf 1 _ rfl 1 1 (t := 3) rfl rfl cells3
  obtain ⟨y1, r1, w1⟩ := open3 g1
  obtain ⟨z2, g2⟩ := fieldS hlen hf 2 _ rfl 2 1 (t := 2) rfl rfl cells2
  obtain ⟨y2, r2, w2⟩ := open2 g2
  obtain ⟨z3, g3⟩ := fieldS hlen hf 3 _ rfl 3 1 (t := 55) rfl rfl cells55
  obtain ⟨y3, r3, w3⟩ := open55 g3
  exact ⟨api_Summary.mk y0 y1 y2 y3, (f2_split r0 (f2_split r1 (f2_split r2 (f2_split r3 (f2_end (by omega))))) : F2 (LR w) _ (cs.drop 0)), w0, w1, w2, w3⟩
theorem open177 {H : Type} {enc : TypeId × Value → H} {w : World} {base : Nat} {spare : Nat → Bool} {held : Bool} {fuel : Nat} {cs : List Value} {x : DataW H × List MemPlace} (h : DataW.trod enc Try.prog w base spare held fuel 177 cs = some x) : ∃ y : api_Entry, F2 (LR w) (enc_api_Entry y) cs ∧ wf_api_Entry y := by
  obtain ⟨xs, n, _, _, hl, hlen, hf⟩ := DataW.trod_struct Try.underlying177 h
  rw [cells177] at hl
  obtain ⟨z0, g0⟩ := fieldS hlen hf 0 _ rfl 0 1 (t := 2) rfl rfl cells2
  obtain ⟨y0, r0, w0⟩ := open2 g0
  obtain ⟨z1, g1⟩ := fieldS hlen hf 1 _ rfl 1 1 (t := 2) rfl rfl cells2
  obtain ⟨y1, r1, w1⟩ := open2 g1
  obtain ⟨z2, g2⟩ := fieldS hlen hf 2 _ rfl 2 1 (t := 2) rfl rfl cells2
  obtain ⟨y2, r2, w2⟩ := open2 g2
  exact ⟨api_Entry.mk y0 y1 y2, (f2_split r0 (f2_split r1 (f2_split r2 (f2_end (by omega)))) : F2 (LR w) _ (cs.drop 0)), w0, w1, w2⟩
theorem open159 {H : Type} {enc : TypeId × Value → H} {w : World} {base : Nat} {spare : Nat → Bool} {held : Bool} {fuel : Nat} {cs : List Value} {x : DataW H × List MemPlace} (h : DataW.trod enc Try.prog w base spare held fuel 159 cs = some x) : ∃ y : (List api_Entry), F2 (LR w) (eL 3 enc_api_Entry y) cs ∧ (wfL wf_api_Entry) y :=
  open_s enc_api_Entry wf_api_Entry 3 Try.underlying159 cells177 (by decide) (fun _ => rfl) (fun _ _ _ h => open177 h) h
theorem open161 {H : Type} {enc : TypeId × Value → H} {w : World} {base : Nat} {spare : Nat → Bool} {held : Bool} {fuel : Nat} {cs : List Value} {x : DataW H × List MemPlace} (h : DataW.trod enc Try.prog w base spare held fuel 161 cs = some x) : ∃ y : api_Ranks, F2 (LR w) (enc_api_Ranks y) cs ∧ wf_api_Ranks y := by
  obtain ⟨xs, n, _, _, hl, hlen, hf⟩ := DataW.trod_struct Try.underlying161 h
  rw [cells161] at hl
  obtain ⟨z0, g0⟩ := fieldS hlen hf 0 _ rfl 0 1 (t := 2) rfl rfl cells2
  obtain ⟨y0, r0, w0⟩ := open2 g0
  obtain ⟨z1, g1⟩ := fieldS hlen hf 1 _ rfl 1 1 (t := 159) rfl rfl cells159
  obtain ⟨y1, r1, w1⟩ := open159 g1
  exact ⟨api_Ranks.mk y0 y1, (f2_split r0 (f2_split r1 (f2_end (by omega))) : F2 (LR w) _ (cs.drop 0)), w0, w1⟩
theorem open163 {H : Type} {enc : TypeId × Value → H} {w : World} {base : Nat} {spare : Nat → Bool} {held : Bool} {fuel : Nat} {cs : List Value} {x : DataW H × List MemPlace} (h : DataW.trod enc Try.prog w base spare held fuel 163 cs = some x) : ∃ y : api_Block, F2 (LR w) (enc_api_Block y) cs ∧ wf_api_Block y := by
  obtain ⟨xs, n, _, _, hl, hlen, hf⟩ := DataW.trod_struct Try.underlying163 h
  rw [cells163] at hl
  obtain ⟨z0, g0⟩ := fieldS hlen hf 0 _ rfl 0 1 (t := 2) rfl rfl cells2
  obtain ⟨y0, r0, w0⟩ := open2 g0
  obtain ⟨z1, g1⟩ := fieldS hlen hf 1 _ rfl 1 1 (t := 2) rfl rfl cells2
  obtain ⟨y1, r1, w1⟩ := open2 g1
  obtain ⟨z2, g2⟩ := fieldS hlen hf 2 _ rfl 2 1 (t := 3) rfl rfl cells3
  obtain ⟨y2, r2, w2⟩ := open3 g2
  obtain ⟨z3, g3⟩ := fieldS hlen hf 3 _ rfl 3 2 (t := 161) rfl rfl cells161
  obtain ⟨y3, r3, w3⟩ := open161 g3
  exact ⟨api_Block.mk y0 y1 y2 y3, (f2_split r0 (f2_split r1 (f2_split r2 (f2_split r3 (f2_end (by omega))))) : F2 (LR w) _ (cs.drop 0)), w0, w1, w2, w3⟩
theorem open58 {H : Type} {enc : TypeId × Value → H} {w : World} {base : Nat} {spare : Nat → Bool} {held : Bool} {fuel : Nat} {cs : List Value} {x : DataW H × List MemPlace} (h : DataW.trod enc Try.prog w base spare held fuel 58 cs = some x) : ∃ y : (List api_Block), F2 (LR w) (eL 5 enc_api_Block y) cs ∧ (wfL wf_api_Block) y :=
  open_s enc_api_Block wf_api_Block 5 Try.underlying58 cells163 (by decide) (fun _ => rfl) (fun _ _ _ h => open163 h) h
theorem open60 {H : Type} {enc : TypeId × Value → H} {w : World} {base : Nat} {spare : Nat → Bool} {held : Bool} {fuel : Nat} {cs : List Value} {x : DataW H × List MemPlace} (h : DataW.trod enc Try.prog w base spare held fuel 60 cs = some x) : ∃ y : api_Quantile, F2 (LR w) (enc_api_Quantile y) cs ∧ wf_api_Quantile y := by
  obtain ⟨xs, n, _, _, hl, hlen, hf⟩ := DataW.trod_struct Try.underlying60 h
  rw [cells60] at hl
  obtain ⟨z0, g0⟩ := fieldS hlen hf 0 _ rfl 0 1 (t := 2) rfl rfl cells2
  obtain ⟨y0, r0, w0⟩ := open2 g0
  obtain ⟨z1, g1⟩ := fieldS hlen hf 1 _ rfl 1 1 (t := 3) rfl rfl cells3
  obtain ⟨y1, r1, w1⟩ := open3 g1
  obtain ⟨z2, g2⟩ := fieldS hlen hf 2 _ rfl 2 1 (t := 3) rfl rfl cells3
  obtain ⟨y2, r2, w2⟩ := open3 g2
  obtain ⟨z3, g3⟩ := fieldS hlen hf 3 _ rfl 3 1 (t := 2) rfl rfl cells2
  obtain ⟨y3, r3, w3⟩ := open2 g3
  obtain ⟨z4, g4⟩ := fieldS hlen hf 4 _ rfl 4 1 (t := 58) rfl rfl cells58
  obtain ⟨y4, r4, w4⟩ := open58 g4
  exact ⟨api_Quantile.mk y0 y1 y2 y3 y4, (f2_split r0 (f2_split r1 (f2_split r2 (f2_split r3 (f2_split r4 (f2_end (by omega)))))) : F2 (LR w) _ (cs.drop 0)), w0, w1, w2, w3, w4⟩
theorem open62 {H : Type} {enc : TypeId × Value → H} {w : World} {base : Nat} {spare : Nat → Bool} {held : Bool} {fuel : Nat} {cs : List Value} {x : DataW H × List MemPlace} (h : DataW.trod enc Try.prog w base spare held fuel 62 cs = some x) : ∃ y : api_Synopsis, F2 (LR w) (enc_api_Synopsis y) cs ∧ wf_api_Synopsis y := by
  obtain ⟨xs, n, _, _, hl, hlen, hf⟩ := DataW.trod_struct Try.underlying62 h
  rw [cells62] at hl
  obtain ⟨z0, g0⟩ := fieldS hlen hf 0 _ rfl 0 8 (t := 31) rfl rfl cells31
  obtain ⟨y0, r0, w0⟩ := open31 g0
  obtain ⟨z1, g1⟩ := fieldS hlen hf 1 _ rfl 8 4 (t := 34) rfl rfl cells34
  obtain ⟨y1, r1, w1⟩ := open34 g1
  obtain ⟨z2, g2⟩ := fieldS hlen hf 2 _ rfl 12 5 (t := 37) rfl rfl cells37
  obtain ⟨y2, r2, w2⟩ := open37 g2
  obtain ⟨z3, g3⟩ := fieldS hlen hf 3 _ rfl 17 6 (t := 39) rfl rfl cells39
  obtain ⟨y3, r3, w3⟩ := open39 g3
  obtain ⟨z4, g4⟩ := fieldS hlen hf 4 _ rfl 23 7 (t := 42) rfl rfl cells42
  obtain ⟨y4, r4, w4⟩ := open42 g4
  obtain ⟨z5, g5⟩ := fieldS hlen hf 5 _ rfl 30 6 (t := 44) rfl rfl cells44
  obtain ⟨y5, r5, w5⟩ := open44 g5
  obtain ⟨z6, g6⟩ := fieldS hlen hf 6 _ rfl 36 4 (t := 47) rfl rfl cells47
  obtain ⟨y6, r6, w6⟩ := open47 g6
  obtain ⟨z7, g7⟩ := fieldS hlen hf 7 _ rfl 40 2 (t := 49) rfl rfl cells49
  obtain ⟨y7, r7, w7⟩ := open49 g7
  obtain ⟨z8, g8⟩ := fieldS hlen hf 8 _ rfl 42 5 (t := 51) rfl rfl cells51
  obtain ⟨y8, r8, w8⟩ := open51 g8
  obtain ⟨z9, g9⟩ := fieldS hlen hf 9 _ rfl 47 1 (t := 54) rfl rfl cells54
  obtain ⟨y9, r9, w9⟩ := open54 g9
  obtain ⟨z10, g10⟩ := fieldS hlen hf 10 _ rfl 48 4 (t := 57) rfl rfl cells57
  obtain ⟨y10, r10, w10⟩ := open57 g10
  obtain ⟨z11, g11⟩ := fieldS hlen hf 11 _ rfl 52 5 (t := 60) rfl rfl cells60
  obtain ⟨y11, r11, w11⟩ := open60 g11
  exact ⟨api_Synopsis.mk y0 y1 y2 y3 y4 y5 y6 y7 y8 y9 y10 y11, (f2_split r0 (f2_split r1 (f2_split r2 (f2_split r3 (f2_split r4 (f2_split r5 (f2_split r6 (f2_split r7 (f2_split r8 (f2_split r9 (f2_split r10 (f2_split r11 (f2_end (by omega))))))))))))) : F2 (LR w) _ (cs.drop 0)), w0, w1, w2, w3, w4, w5, w6, w7, w8, w9, w10, w11⟩
theorem open72 {H : Type} {enc : TypeId × Value → H} {w : World} {base : Nat} {spare : Nat → Bool} {held : Bool} {fuel : Nat} {cs : List Value} {x : DataW H × List MemPlace} (h : DataW.trod enc Try.prog w base spare held fuel 72 cs = some x) : ∃ y : api_Record, F2 (LR w) (enc_api_Record y) cs ∧ wf_api_Record y := by
  obtain ⟨xs, n, _, _, hl, hlen, hf⟩ := DataW.trod_struct Try.underlying72 h
  rw [cells72] at hl
  obtain ⟨z0, g0⟩ := fieldS hlen hf 0 _ rfl 0 1 (t := 2) rfl rfl cells2
  obtain ⟨y0, r0, w0⟩ := open2 g0
  obtain ⟨z1, g1⟩ := fieldS hlen hf 1 _ rfl 1 57 (t := 62) rfl rfl cells62
  obtain ⟨y1, r1, w1⟩ := open62 g1
  exact ⟨api_Record.mk y0 y1, (f2_split r0 (f2_split r1 (f2_end (by omega))) : F2 (LR w) _ (cs.drop 0)), w0, w1⟩
theorem open22 {H : Type} {enc : TypeId × Value → H} {w : World} {base : Nat} {spare : Nat → Bool} {held : Bool} {fuel : Nat} {cs : List Value} {x : DataW H × List MemPlace} (h : DataW.trod enc Try.prog w base spare held fuel 22 cs = some x) : ∃ y : (List api_Record), F2 (LR w) (eL 58 enc_api_Record y) cs ∧ (wfL wf_api_Record) y :=
  open_s enc_api_Record wf_api_Record 58 Try.underlying22 cells72 (by decide) (fun _ => rfl) (fun _ _ _ h => open72 h) h

theorem walk (w : World) (p0 : (List api_Record)) (v0 : Value) (r0 : F2 (LR w) (eL 58 enc_api_Record p0) [v0]) (w0 : (wfL wf_api_Record) p0) (p1 : Int) (w1 : wfI .i64 p1) : Calls Try.prog 3 #[v0, .int .i64 p1] w fun e w' => e = .returned (.bool true) ∧ Below w.heap.size w w' :=
  (c_law26_RegistryFind p0 p1 true (law26_RegistryFind_true p0 p1 w0 w1)).law2 Try.call3 w _ rfl (fun i c hi => by
    match i, hi with
    | 0, hi => cases hi; exact ⟨_, rfl, vr1_one r0⟩
    | 1, hi => cases hi; exact ⟨_, rfl, rfl⟩)

set_option maxRecDepth 100000 in
theorem lifted (os : Os) (started : os.Started) (H : Type) (enc : TypeId × Value → H) :
    ReturnsInHanded {} Try.checked os 3 .any (Rows.registryFindSpec.pre6 enc Try.prog Try.f3 Rows.registryFindRow.domain false) (Rows.registryFindSpec.post enc Try.prog Try.f3 false true false false) := by
  refine returnsInHanded_of_change (C := Try.checked) own started (by kernel_rfl) Try.func3
    (ChangeSpec.witness6 (enc := enc) (C := Try.checked) false ⟨#[], #[.slice none 0 0, .int .i64 0], []⟩ 8 (by kernel_rfl) (by kernel_rfl) (by kernel_rfl) (by kernel_rfl)) ?_
  intro W base args ds gs before hval0 hW hcnd _
  have hval : ∀ (j : Nat) t v, Try.f3.params[j]? = some t → args[j]? = some v → Value.okWide Try.prog W .any base t v := hval0
  have hW' := hW
  obtain ⟨p, q, hA0, hV, rfl, hfz, hnd⟩ := hW
  have hA : DataW.TrodAll enc Try.prog W 0 (fun _ => true) true Try.f3.params.toList args.toList ds p := hA0
  rw [Try.params3] at hA hval
  obtain ⟨v0, vs0, d0, ds0, pl0, q0, hargs, rfl, rfl, h0, r0⟩ := trodAll_cons hA
  obtain ⟨v1, vs1, d1, ds1, pl1, q1, rfl, rfl, rfl, h1, r1⟩ := trodAll_cons r0
  obtain ⟨rfl, rfl, rfl⟩ := trodAll_nil r1
  obtain rfl : args = #[v0, v1] := by cases args; simp_all
  obtain ⟨rfl, rfl⟩ := trodVars_none hV
  obtain ⟨ad0, len0, cap0, rfl⟩ := okWide_slice Try.underlying22 (hval 0 22 v0 rfl rfl)
  have hk0 := h0
  obtain ⟨fuel0, hf0⟩ := h0
  obtain ⟨a0, ra0, wa0⟩ := open22 hf0
  obtain ⟨a1, rfl, rfl, rfl, w1⟩ := open_int Try.underlying2 (hval 1 2 v1 rfl rfl) h1
  clear hA0 hval0
  simp only [List.append_nil, List.nil_append] at hW'
  have hlt0 : ∀ x ∈ pl0, x.block < W.heap.size := fun x hx => hW'.lt x (by simp [hx])
  refine (walk W a0 _ ra0 wa0 a1 w1).mono fun e W' ⟨he, hb⟩ => ?_
  subst he
  exact ⟨_, rfl, post_of_below (pa := pl0) (pv := []) hW' (fun _ _ _ => (trodAll_cons_mk (shut_bool Try.underlying4 _) trodAll_mk0))
    (fun sp hsp => by
      have : DataW.TrodAll enc Try.prog W' 0 sp true [22, 2] [Value.slice ad0 len0 cap0, .int .i64 a1] [d0, .lit (.int .i64 a1)] _ := (trodAll_cons_mk (arg_stays laidOut (by kernel_rfl) (of_decide_eq_true (by kernel_rfl)) hk0 hb hlt0 (fun x hx => hsp x (by simp [hx]))) (trodAll_cons_mk (shut_int Try.underlying2 w1) trodAll_mk0))
      have h2 : DataW.TrodAll enc Try.prog W' 0 sp true [22, 2] [Value.slice ad0 len0 cap0, .int .i64 a1] [d0, .lit (.int .i64 a1)] (pl0) := by simpa using this
      exact h2) (fun _ _ => rfl) (by simp) hb
    (ok_one (by kernel_rfl) rfl (okWide_bool_mk Try.underlying4 _))⟩

theorem over : Rows.registryFindRow.holds Try.pinned (OpenSpec.ofChange Rows.registryFindSpec) :=
  OpenClaim.holds_of_wide 3 Try.f3 rfl rfl rfl rfl rfl rfl rfl ⟨rfl, rfl, rfl, rfl, rfl⟩ rfl rfl rfl rfl rfl (by kernel_rfl) Try.func3 (by kernel_rfl)
    (of_decide_eq_true (by kernel_rfl)) (by unfold Func.isWrapper; first | (rw [if_pos (by decide +kernel)]; kernel_rfl) | (rw [if_neg (by decide +kernel)]; exact ⟨rfl, rfl⟩))
    (fun os started H enc _ => lifted os started H enc)

theorem proved : Rows.RegistryFindSaid :=
  over
#print axioms proved
end Go.Proofs.Ytinffhpeahlhoaa.registryFind
