/-
  No cell of these rows narrows 'for every input' (looked for: loops, veiled, ifaces, maps, wideKeys, modest, calm, conditions, laid).
  DERIVED. THE GIVEN ROWS OF THIS SEAT. 8 by the template 'for every input the law returns true; each argument reads behind the call as it read before'; 0 by the template 'total and deterministic' (their statements: YtmipeaidieflmaaGreatTotals.lean).
  GIVEN WITH THE SEED: the statements are not yours to turn. If you find one false, say at which input.
  Laid BY PROGRAM, IN A SANDBOX (cutbox-rows.mjs): the forced cells as the released guide's own fill.sh prints them over the translation b0f3689816f853b9… (all of the seat's roots in one cut). By AI agents, Wed Nov 11 2026. No macro, syntax, notation, axiom, sorry.
-/
import Derived.Test.YtmipeaidieflmaaGreatChecked
import GoSem.Claim
import GoSem.ClaimJoined
import GoSem.ClaimMapViews
import Derived.JoinedTies
import Derived.KernelRfl
namespace Go.Proofs.YtmipeaidieflmaaGreat
/- THE CELL 'sum', in the pinned program and in every row, IS THE sha256 OF THE DUMP (.gsa) THAT YtmipeaidieflmaaGreatProg.lean LOADS. Nothing in Lean hashes anything: it is a label: what it is worth is what the hold of that sum in a sandbox is worth. -/
noncomputable def Tryz.pinned : Pinned := { name := "ytmipeaidieflmaagreat", sum := "b0f3689816f853b9443b2e102eea46ccabf41e25285b5a12827bc75619f027ca", checked := Tryz.checked }
namespace Rows
def none {H : Type} : Left H := { results := [], args := [] }

/-- 'windowpanelaw25.SynopsisAdvance': WHATEVER THE INPUT: true; the input reads as it did. -/
def synopsisAdvanceSpec : ChangeSpec := { name := "synopsisAdvance", fn := fun _ => fun
  | [d1, d2] => { results := [.lit (.bool true)], args := [d1, d2] }
  | _ => none }
def synopsisAdvanceRow : OpenClaim := { program := "ytmipeaidieflmaagreat", sum := "b0f3689816f853b9443b2e102eea46ccabf41e25285b5a12827bc75619f027ca", func := "windowpane/windowpanelaw25.SynopsisAdvance", spec := "synopsisAdvance", inPlace := ["math/bits.Add64"], unfollowed := true, recurses := true, apart := false }
def SynopsisAdvanceSaid : Prop := synopsisAdvanceRow.holds Tryz.pinned (OpenSpec.ofChange synopsisAdvanceSpec)

/-- ITS FALSE NEIGHBOUR: 'it returns false'. Refute it at one input. -/
def synopsisAdvanceWrong : ChangeSpec := { name := "synopsisAdvance", fn := fun _ => fun
  | [d1, d2] => { results := [.lit (.bool false)], args := [d1, d2] }
  | _ => none }
def SynopsisAdvanceWrongFalsely : Prop := synopsisAdvanceRow.holds Tryz.pinned (OpenSpec.ofChange synopsisAdvanceWrong)

/-- 'windowpanelaw28.SnapshotValidate': WHATEVER THE INPUT: true; the input reads as it did. -/
def snapshotValidateSpec : ChangeSpec := { name := "snapshotValidate", fn := fun _ => fun
  | [d] => { results := [.lit (.bool true)], args := [d] }
  | _ => none }
def snapshotValidateRow : OpenClaim := { program := "ytmipeaidieflmaagreat", sum := "b0f3689816f853b9443b2e102eea46ccabf41e25285b5a12827bc75619f027ca", func := "windowpane/windowpanelaw28.SnapshotValidate", spec := "snapshotValidate", inPlace := ["math/bits.Add64"], unfollowed := true, recurses := true, apart := false }
def SnapshotValidateSaid : Prop := snapshotValidateRow.holds Tryz.pinned (OpenSpec.ofChange snapshotValidateSpec)

/-- ITS FALSE NEIGHBOUR: 'it returns false'. Refute it at one input. -/
def snapshotValidateWrong : ChangeSpec := { name := "snapshotValidate", fn := fun _ => fun
  | [d] => { results := [.lit (.bool false)], args := [d] }
  | _ => none }
def SnapshotValidateWrongFalsely : Prop := snapshotValidateRow.holds Tryz.pinned (OpenSpec.ofChange snapshotValidateWrong)

/-- 'windowpanelaw28.SnapshotEncodes': WHATEVER THE INPUT: true; the input reads as it did. -/
def snapshotEncodesSpec : ChangeSpec := { name := "snapshotEncodes", fn := fun _ => fun
  | [d] => { results := [.lit (.bool true)], args := [d] }
  | _ => none }
def snapshotEncodesRow : OpenClaim := { program := "ytmipeaidieflmaagreat", sum := "b0f3689816f853b9443b2e102eea46ccabf41e25285b5a12827bc75619f027ca", func := "windowpane/windowpanelaw28.SnapshotEncodes", spec := "snapshotEncodes", inPlace := ["math/bits.Add64"], unfollowed := true, recurses := true, apart := false }
def SnapshotEncodesSaid : Prop := snapshotEncodesRow.holds Tryz.pinned (OpenSpec.ofChange snapshotEncodesSpec)

/-- ITS FALSE NEIGHBOUR: 'it returns false'. Refute it at one input. -/
def snapshotEncodesWrong : ChangeSpec := { name := "snapshotEncodes", fn := fun _ => fun
  | [d] => { results := [.lit (.bool false)], args := [d] }
  | _ => none }
def SnapshotEncodesWrongFalsely : Prop := snapshotEncodesRow.holds Tryz.pinned (OpenSpec.ofChange snapshotEncodesWrong)

/-- 'windowpanelaw28.SnapshotDecodes': WHATEVER THE INPUT: true; the input reads as it did. -/
def snapshotDecodesSpec : ChangeSpec := { name := "snapshotDecodes", fn := fun _ => fun
  | [d] => { results := [.lit (.bool true)], args := [d] }
  | _ => none }
def snapshotDecodesRow : OpenClaim := { program := "ytmipeaidieflmaagreat", sum := "b0f3689816f853b9443b2e102eea46ccabf41e25285b5a12827bc75619f027ca", func := "windowpane/windowpanelaw28.SnapshotDecodes", spec := "snapshotDecodes", inPlace := ["math/bits.Add64"], unfollowed := true, recurses := true, apart := false }
def SnapshotDecodesSaid : Prop := snapshotDecodesRow.holds Tryz.pinned (OpenSpec.ofChange snapshotDecodesSpec)

/-- ITS FALSE NEIGHBOUR: 'it returns false'. Refute it at one input. -/
def snapshotDecodesWrong : ChangeSpec := { name := "snapshotDecodes", fn := fun _ => fun
  | [d] => { results := [.lit (.bool false)], args := [d] }
  | _ => none }
def SnapshotDecodesWrongFalsely : Prop := snapshotDecodesRow.holds Tryz.pinned (OpenSpec.ofChange snapshotDecodesWrong)

/-- 'windowpanelaw28.SnapshotSealed': WHATEVER THE INPUT: true; the input reads as it did. -/
def snapshotSealedSpec : ChangeSpec := { name := "snapshotSealed", fn := fun _ => fun
  | [d] => { results := [.lit (.bool true)], args := [d] }
  | _ => none }
def snapshotSealedRow : OpenClaim := { program := "ytmipeaidieflmaagreat", sum := "b0f3689816f853b9443b2e102eea46ccabf41e25285b5a12827bc75619f027ca", func := "windowpane/windowpanelaw28.SnapshotSealed", spec := "snapshotSealed", inPlace := ["math/bits.Add64"], unfollowed := true, recurses := true, apart := false }
def SnapshotSealedSaid : Prop := snapshotSealedRow.holds Tryz.pinned (OpenSpec.ofChange snapshotSealedSpec)

/-- ITS FALSE NEIGHBOUR: 'it returns false'. Refute it at one input. -/
def snapshotSealedWrong : ChangeSpec := { name := "snapshotSealed", fn := fun _ => fun
  | [d] => { results := [.lit (.bool false)], args := [d] }
  | _ => none }
def SnapshotSealedWrongFalsely : Prop := snapshotSealedRow.holds Tryz.pinned (OpenSpec.ofChange snapshotSealedWrong)

/-- 'windowpanelaw28.SnapshotChanged': WHATEVER THE INPUT: true; the input reads as it did. -/
def snapshotChangedSpec : ChangeSpec := { name := "snapshotChanged", fn := fun _ => fun
  | [d1, d2, d3] => { results := [.lit (.bool true)], args := [d1, d2, d3] }
  | _ => none }
def snapshotChangedRow : OpenClaim := { program := "ytmipeaidieflmaagreat", sum := "b0f3689816f853b9443b2e102eea46ccabf41e25285b5a12827bc75619f027ca", func := "windowpane/windowpanelaw28.SnapshotChanged", spec := "snapshotChanged", inPlace := ["math/bits.Add64"], unfollowed := true, recurses := true, apart := false }
def SnapshotChangedSaid : Prop := snapshotChangedRow.holds Tryz.pinned (OpenSpec.ofChange snapshotChangedSpec)

/-- ITS FALSE NEIGHBOUR: 'it returns false'. Refute it at one input. -/
def snapshotChangedWrong : ChangeSpec := { name := "snapshotChanged", fn := fun _ => fun
  | [d1, d2, d3] => { results := [.lit (.bool false)], args := [d1, d2, d3] }
  | _ => none }
def SnapshotChangedWrongFalsely : Prop := snapshotChangedRow.holds Tryz.pinned (OpenSpec.ofChange snapshotChangedWrong)

/-- 'windowpanelaw28.SnapshotDamaged': WHATEVER THE INPUT: true; the input reads as it did. -/
def snapshotDamagedSpec : ChangeSpec := { name := "snapshotDamaged", fn := fun _ => fun
  | [d1, d2, d3, d4] => { results := [.lit (.bool true)], args := [d1, d2, d3, d4] }
  | _ => none }
def snapshotDamagedRow : OpenClaim := { program := "ytmipeaidieflmaagreat", sum := "b0f3689816f853b9443b2e102eea46ccabf41e25285b5a12827bc75619f027ca", func := "windowpane/windowpanelaw28.SnapshotDamaged", spec := "snapshotDamaged", inPlace := ["math/bits.Add64"], unfollowed := true, recurses := true, apart := false }
def SnapshotDamagedSaid : Prop := snapshotDamagedRow.holds Tryz.pinned (OpenSpec.ofChange snapshotDamagedSpec)

/-- ITS FALSE NEIGHBOUR: 'it returns false'. Refute it at one input. -/
def snapshotDamagedWrong : ChangeSpec := { name := "snapshotDamaged", fn := fun _ => fun
  | [d1, d2, d3, d4] => { results := [.lit (.bool false)], args := [d1, d2, d3, d4] }
  | _ => none }
def SnapshotDamagedWrongFalsely : Prop := snapshotDamagedRow.holds Tryz.pinned (OpenSpec.ofChange snapshotDamagedWrong)

/-- 'windowpanelaw25.SynopsisAdd': WHATEVER THE INPUT: true; the input reads as it did. -/
def synopsisAddSpec : ChangeSpec := { name := "synopsisAdd", fn := fun _ => fun
  | [d1, d2, d3] => { results := [.lit (.bool true)], args := [d1, d2, d3] }
  | _ => none }
def synopsisAddRow : OpenClaim := { program := "ytmipeaidieflmaagreat", sum := "b0f3689816f853b9443b2e102eea46ccabf41e25285b5a12827bc75619f027ca", func := "windowpane/windowpanelaw25.SynopsisAdd", spec := "synopsisAdd", inPlace := ["math/bits.Add64"], unfollowed := true, recurses := true, apart := false }
def SynopsisAddSaid : Prop := synopsisAddRow.holds Tryz.pinned (OpenSpec.ofChange synopsisAddSpec)

/-- ITS FALSE NEIGHBOUR: 'it returns false'. Refute it at one input. -/
def synopsisAddWrong : ChangeSpec := { name := "synopsisAdd", fn := fun _ => fun
  | [d1, d2, d3] => { results := [.lit (.bool false)], args := [d1, d2, d3] }
  | _ => none }
def SynopsisAddWrongFalsely : Prop := synopsisAddRow.holds Tryz.pinned (OpenSpec.ofChange synopsisAddWrong)

/- THE SECOND FORM. 'bulk': how many values and letters a reading holds, each counted each time it is reached (what is shared counts as often as it is met; a slice's spare places count too). A statement '..UptoSaid' is the law's where the arguments, and the package variables that the reading takes, are together of bulk at most 1048576: NARROWER than '..Said'. Prove '..Said' where nothing that the law and all that it calls make is longer than what came in: it says more and counts as full. Else prove '..UptoSaid'. A law counts once. -/
mutual
def uptoBulk {H : Type} : DataW H → Nat
  | .lit (.string bytes) => bytes.length + 1
  | .lit _ => 1
  | .nil => 1
  | .ptr d => uptoBulk d + 1
  | .slice elems spare => uptoBulkAll elems + uptoBulkAll spare + 1
  | .agg parts => uptoBulkAll parts + 1
  | .iface _ d => uptoBulk d + 1
  | .map entries => uptoBulkEntries entries + 1
  | .held _ => 1
def uptoBulkAll {H : Type} : List (DataW H) → Nat
  | [] => 0
  | d :: r => uptoBulk d + uptoBulkAll r
def uptoBulkEntries {H : Type} : List (Lit × DataW H) → Nat
  | [] => 0
  | x :: r => uptoBulkEntry x + uptoBulkEntries r
def uptoBulkEntry {H : Type} : Lit × DataW H → Nat
  | (.string bytes, d) => bytes.length + uptoBulk d + 1
  | (_, d) => uptoBulk d + 1
 end
def uptoSmall : (H : Type) → List (DataW H) → Bool := fun _ ds => decide (uptoBulkAll ds ≤ 1048576)
def OpenSpec.upto (s : _root_.Go.ChangeSpec) : _root_.Go.OpenSpec := { _root_.Go.OpenSpec.ofChange s with cond := some uptoSmall }

/-- 'windowpanelaw25.SynopsisAdvance', WHERE WHAT IT READS IS OF BULK AT MOST 1048576: true; the input reads as it did. -/
def synopsisAdvanceUptoRow : OpenClaim := { program := "ytmipeaidieflmaagreat", sum := "b0f3689816f853b9443b2e102eea46ccabf41e25285b5a12827bc75619f027ca", func := "windowpane/windowpanelaw25.SynopsisAdvance", spec := "synopsisAdvance", inPlace := ["math/bits.Add64"], unfollowed := true, recurses := true, apart := false, narrowed := true }
def SynopsisAdvanceUptoSaid : Prop := synopsisAdvanceUptoRow.holds Tryz.pinned (OpenSpec.upto synopsisAdvanceSpec)

/-- 'windowpanelaw28.SnapshotValidate', WHERE WHAT IT READS IS OF BULK AT MOST 1048576: true; the input reads as it did. -/
def snapshotValidateUptoRow : OpenClaim := { program := "ytmipeaidieflmaagreat", sum := "b0f3689816f853b9443b2e102eea46ccabf41e25285b5a12827bc75619f027ca", func := "windowpane/windowpanelaw28.SnapshotValidate", spec := "snapshotValidate", inPlace := ["math/bits.Add64"], unfollowed := true, recurses := true, apart := false, narrowed := true }
def SnapshotValidateUptoSaid : Prop := snapshotValidateUptoRow.holds Tryz.pinned (OpenSpec.upto snapshotValidateSpec)

/-- 'windowpanelaw28.SnapshotEncodes', WHERE WHAT IT READS IS OF BULK AT MOST 1048576: true; the input reads as it did. -/
def snapshotEncodesUptoRow : OpenClaim := { program := "ytmipeaidieflmaagreat", sum := "b0f3689816f853b9443b2e102eea46ccabf41e25285b5a12827bc75619f027ca", func := "windowpane/windowpanelaw28.SnapshotEncodes", spec := "snapshotEncodes", inPlace := ["math/bits.Add64"], unfollowed := true, recurses := true, apart := false, narrowed := true }
def SnapshotEncodesUptoSaid : Prop := snapshotEncodesUptoRow.holds Tryz.pinned (OpenSpec.upto snapshotEncodesSpec)

/-- 'windowpanelaw28.SnapshotDecodes', WHERE WHAT IT READS IS OF BULK AT MOST 1048576: true; the input reads as it did. -/
def snapshotDecodesUptoRow : OpenClaim := { program := "ytmipeaidieflmaagreat", sum := "b0f3689816f853b9443b2e102eea46ccabf41e25285b5a12827bc75619f027ca", func := "windowpane/windowpanelaw28.SnapshotDecodes", spec := "snapshotDecodes", inPlace := ["math/bits.Add64"], unfollowed := true, recurses := true, apart := false, narrowed := true }
def SnapshotDecodesUptoSaid : Prop := snapshotDecodesUptoRow.holds Tryz.pinned (OpenSpec.upto snapshotDecodesSpec)

/-- 'windowpanelaw28.SnapshotSealed', WHERE WHAT IT READS IS OF BULK AT MOST 1048576: true; the input reads as it did. -/
def snapshotSealedUptoRow : OpenClaim := { program := "ytmipeaidieflmaagreat", sum := "b0f3689816f853b9443b2e102eea46ccabf41e25285b5a12827bc75619f027ca", func := "windowpane/windowpanelaw28.SnapshotSealed", spec := "snapshotSealed", inPlace := ["math/bits.Add64"], unfollowed := true, recurses := true, apart := false, narrowed := true }
def SnapshotSealedUptoSaid : Prop := snapshotSealedUptoRow.holds Tryz.pinned (OpenSpec.upto snapshotSealedSpec)

/-- 'windowpanelaw28.SnapshotChanged', WHERE WHAT IT READS IS OF BULK AT MOST 1048576: true; the input reads as it did. -/
def snapshotChangedUptoRow : OpenClaim := { program := "ytmipeaidieflmaagreat", sum := "b0f3689816f853b9443b2e102eea46ccabf41e25285b5a12827bc75619f027ca", func := "windowpane/windowpanelaw28.SnapshotChanged", spec := "snapshotChanged", inPlace := ["math/bits.Add64"], unfollowed := true, recurses := true, apart := false, narrowed := true }
def SnapshotChangedUptoSaid : Prop := snapshotChangedUptoRow.holds Tryz.pinned (OpenSpec.upto snapshotChangedSpec)

/-- 'windowpanelaw28.SnapshotDamaged', WHERE WHAT IT READS IS OF BULK AT MOST 1048576: true; the input reads as it did. -/
def snapshotDamagedUptoRow : OpenClaim := { program := "ytmipeaidieflmaagreat", sum := "b0f3689816f853b9443b2e102eea46ccabf41e25285b5a12827bc75619f027ca", func := "windowpane/windowpanelaw28.SnapshotDamaged", spec := "snapshotDamaged", inPlace := ["math/bits.Add64"], unfollowed := true, recurses := true, apart := false, narrowed := true }
def SnapshotDamagedUptoSaid : Prop := snapshotDamagedUptoRow.holds Tryz.pinned (OpenSpec.upto snapshotDamagedSpec)

/-- 'windowpanelaw25.SynopsisAdd', WHERE WHAT IT READS IS OF BULK AT MOST 1048576: true; the input reads as it did. -/
def synopsisAddUptoRow : OpenClaim := { program := "ytmipeaidieflmaagreat", sum := "b0f3689816f853b9443b2e102eea46ccabf41e25285b5a12827bc75619f027ca", func := "windowpane/windowpanelaw25.SynopsisAdd", spec := "synopsisAdd", inPlace := ["math/bits.Add64"], unfollowed := true, recurses := true, apart := false, narrowed := true }
def SynopsisAddUptoSaid : Prop := synopsisAddUptoRow.holds Tryz.pinned (OpenSpec.upto synopsisAddSpec)

end Rows
end Go.Proofs.YtmipeaidieflmaaGreat
