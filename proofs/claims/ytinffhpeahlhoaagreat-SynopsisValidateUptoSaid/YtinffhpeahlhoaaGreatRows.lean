/-
  No cell of these rows narrows 'for every input' (looked for: loops, veiled, ifaces, maps, wideKeys, modest, calm, conditions, laid).
  DERIVED. THE GIVEN ROWS OF THIS SEAT. 6 by the template 'for every input the law returns true; each argument reads behind the call as it read before'; 0 by the template 'total and deterministic' (their statements: YtinffhpeahlhoaaGreatTotals.lean).
  GIVEN WITH THE SEED: the statements are not yours to turn. If you find one false, say at which input.
  Laid BY PROGRAM, IN A SANDBOX (cutbox-rows.mjs): the forced cells as the released guide's own fill.sh prints them over the translation b0084481644cd3bb… (all of the seat's roots in one cut). By AI agents, Wed Nov 11 2026. No macro, syntax, notation, axiom, sorry.
-/
import Derived.Test.YtinffhpeahlhoaaGreatChecked
import GoSem.Claim
import GoSem.ClaimJoined
import GoSem.ClaimMapViews
import Derived.JoinedTies
import Derived.KernelRfl
namespace Go.Proofs.YtinffhpeahlhoaaGreat
/- THE CELL 'sum', in the pinned program and in every row, IS THE sha256 OF THE DUMP (.gsa) THAT YtinffhpeahlhoaaGreatProg.lean LOADS. Nothing in Lean hashes anything: it is a label: what it is worth is what the hold of that sum in a sandbox is worth. -/
noncomputable def Tryz.pinned : Pinned := { name := "ytinffhpeahlhoaagreat", sum := "b0084481644cd3bbdb7d9bb2b205c6c0e7b0dd760063bb709ca9d8748164810b", checked := Tryz.checked }
namespace Rows
def none {H : Type} : Left H := { results := [], args := [] }

/-- 'windowpanelaw26.RegistryValid': WHATEVER THE INPUT: true; the input reads as it did. -/
def registryValidSpec : ChangeSpec := { name := "registryValid", fn := fun _ => fun
  | [d1, d2] => { results := [.lit (.bool true)], args := [d1, d2] }
  | _ => none }
def registryValidRow : OpenClaim := { program := "ytinffhpeahlhoaagreat", sum := "b0084481644cd3bbdb7d9bb2b205c6c0e7b0dd760063bb709ca9d8748164810b", func := "windowpane/windowpanelaw26.RegistryValid", spec := "registryValid", inPlace := ["math/bits.Add64"], unfollowed := true, recurses := true, apart := false }
def RegistryValidSaid : Prop := registryValidRow.holds Tryz.pinned (OpenSpec.ofChange registryValidSpec)

/-- ITS FALSE NEIGHBOUR: 'it returns false'. Refute it at one input. -/
def registryValidWrong : ChangeSpec := { name := "registryValid", fn := fun _ => fun
  | [d1, d2] => { results := [.lit (.bool false)], args := [d1, d2] }
  | _ => none }
def RegistryValidWrongFalsely : Prop := registryValidRow.holds Tryz.pinned (OpenSpec.ofChange registryValidWrong)

/-- 'windowpanelaw26.RegistryChanges': WHATEVER THE INPUT: true; the input reads as it did. -/
def registryChangesSpec : ChangeSpec := { name := "registryChanges", fn := fun _ => fun
  | [d1, d2, d3] => { results := [.lit (.bool true)], args := [d1, d2, d3] }
  | _ => none }
def registryChangesRow : OpenClaim := { program := "ytinffhpeahlhoaagreat", sum := "b0084481644cd3bbdb7d9bb2b205c6c0e7b0dd760063bb709ca9d8748164810b", func := "windowpane/windowpanelaw26.RegistryChanges", spec := "registryChanges", inPlace := ["math/bits.Add64"], unfollowed := true, recurses := true, apart := false }
def RegistryChangesSaid : Prop := registryChangesRow.holds Tryz.pinned (OpenSpec.ofChange registryChangesSpec)

/-- ITS FALSE NEIGHBOUR: 'it returns false'. Refute it at one input. -/
def registryChangesWrong : ChangeSpec := { name := "registryChanges", fn := fun _ => fun
  | [d1, d2, d3] => { results := [.lit (.bool false)], args := [d1, d2, d3] }
  | _ => none }
def RegistryChangesWrongFalsely : Prop := registryChangesRow.holds Tryz.pinned (OpenSpec.ofChange registryChangesWrong)

/-- 'windowpanelaw25.SynopsisNew': WHATEVER THE INPUT: true; the input reads as it did. -/
def synopsisNewSpec : ChangeSpec := { name := "synopsisNew", fn := fun _ => fun
  | [d1, d2] => { results := [.lit (.bool true)], args := [d1, d2] }
  | _ => none }
def synopsisNewRow : OpenClaim := { program := "ytinffhpeahlhoaagreat", sum := "b0084481644cd3bbdb7d9bb2b205c6c0e7b0dd760063bb709ca9d8748164810b", func := "windowpane/windowpanelaw25.SynopsisNew", spec := "synopsisNew", inPlace := ["math/bits.Add64"], unfollowed := true, recurses := true, apart := false }
def SynopsisNewSaid : Prop := synopsisNewRow.holds Tryz.pinned (OpenSpec.ofChange synopsisNewSpec)

/-- ITS FALSE NEIGHBOUR: 'it returns false'. Refute it at one input. -/
def synopsisNewWrong : ChangeSpec := { name := "synopsisNew", fn := fun _ => fun
  | [d1, d2] => { results := [.lit (.bool false)], args := [d1, d2] }
  | _ => none }
def SynopsisNewWrongFalsely : Prop := synopsisNewRow.holds Tryz.pinned (OpenSpec.ofChange synopsisNewWrong)

/-- 'windowpanelaw25.SynopsisValidate': WHATEVER THE INPUT: true; the input reads as it did. -/
def synopsisValidateSpec : ChangeSpec := { name := "synopsisValidate", fn := fun _ => fun
  | [d] => { results := [.lit (.bool true)], args := [d] }
  | _ => none }
def synopsisValidateRow : OpenClaim := { program := "ytinffhpeahlhoaagreat", sum := "b0084481644cd3bbdb7d9bb2b205c6c0e7b0dd760063bb709ca9d8748164810b", func := "windowpane/windowpanelaw25.SynopsisValidate", spec := "synopsisValidate", inPlace := ["math/bits.Add64"], unfollowed := true, recurses := true, apart := false }
def SynopsisValidateSaid : Prop := synopsisValidateRow.holds Tryz.pinned (OpenSpec.ofChange synopsisValidateSpec)

/-- ITS FALSE NEIGHBOUR: 'it returns false'. Refute it at one input. -/
def synopsisValidateWrong : ChangeSpec := { name := "synopsisValidate", fn := fun _ => fun
  | [d] => { results := [.lit (.bool false)], args := [d] }
  | _ => none }
def SynopsisValidateWrongFalsely : Prop := synopsisValidateRow.holds Tryz.pinned (OpenSpec.ofChange synopsisValidateWrong)

/-- 'windowpanelaw25.SynopsisAdvance': WHATEVER THE INPUT: true; the input reads as it did. -/
def synopsisAdvanceSpec : ChangeSpec := { name := "synopsisAdvance", fn := fun _ => fun
  | [d1, d2] => { results := [.lit (.bool true)], args := [d1, d2] }
  | _ => none }
def synopsisAdvanceRow : OpenClaim := { program := "ytinffhpeahlhoaagreat", sum := "b0084481644cd3bbdb7d9bb2b205c6c0e7b0dd760063bb709ca9d8748164810b", func := "windowpane/windowpanelaw25.SynopsisAdvance", spec := "synopsisAdvance", inPlace := ["math/bits.Add64"], unfollowed := true, recurses := true, apart := false }
def SynopsisAdvanceSaid : Prop := synopsisAdvanceRow.holds Tryz.pinned (OpenSpec.ofChange synopsisAdvanceSpec)

/-- ITS FALSE NEIGHBOUR: 'it returns false'. Refute it at one input. -/
def synopsisAdvanceWrong : ChangeSpec := { name := "synopsisAdvance", fn := fun _ => fun
  | [d1, d2] => { results := [.lit (.bool false)], args := [d1, d2] }
  | _ => none }
def SynopsisAdvanceWrongFalsely : Prop := synopsisAdvanceRow.holds Tryz.pinned (OpenSpec.ofChange synopsisAdvanceWrong)

/-- 'windowpanelaw25.SynopsisAdd': WHATEVER THE INPUT: true; the input reads as it did. -/
def synopsisAddSpec : ChangeSpec := { name := "synopsisAdd", fn := fun _ => fun
  | [d1, d2, d3] => { results := [.lit (.bool true)], args := [d1, d2, d3] }
  | _ => none }
def synopsisAddRow : OpenClaim := { program := "ytinffhpeahlhoaagreat", sum := "b0084481644cd3bbdb7d9bb2b205c6c0e7b0dd760063bb709ca9d8748164810b", func := "windowpane/windowpanelaw25.SynopsisAdd", spec := "synopsisAdd", inPlace := ["math/bits.Add64"], unfollowed := true, recurses := true, apart := false }
def SynopsisAddSaid : Prop := synopsisAddRow.holds Tryz.pinned (OpenSpec.ofChange synopsisAddSpec)

/-- ITS FALSE NEIGHBOUR: 'it returns false'. Refute it at one input. -/
def synopsisAddWrong : ChangeSpec := { name := "synopsisAdd", fn := fun _ => fun
  | [d1, d2, d3] => { results := [.lit (.bool false)], args := [d1, d2, d3] }
  | _ => none }
def SynopsisAddWrongFalsely : Prop := synopsisAddRow.holds Tryz.pinned (OpenSpec.ofChange synopsisAddWrong)

/- THE SECOND FORM. 'bulk': how many values and letters a reading holds, each counted each time it is reached (what is shared counts as often as it is met; a slice's spare places count too). A statement '..UptoSaid' is the law's where the arguments, and the package variables that the reading takes, are together of bulk at most 1048576: NARROWER than '..Said'. Prove '..Said' where nothing that the law and all that it calls make is longer than what came in: it says more and counts as full. Else prove '..UptoSaid'. A law counts once. -/
mutual
def uptoBulk {H : Type} : DataW H → Nat
  | .lit (.string bytes) => bytes.length + 1
  | .lit _ => 1
  | .nil => 1
  | .ptr d => uptoBulk d + 1
  | .slice elems spare => uptoBulkAll elems + uptoBulkAll spare + 1
  | .agg parts => uptoBulkAll parts + 1
  | .iface _ d => uptoBulk d + 1
  | .map entries => uptoBulkEntries entries + 1
  | .held _ => 1
def uptoBulkAll {H : Type} : List (DataW H) → Nat
  | [] => 0
  | d :: r => uptoBulk d + uptoBulkAll r
def uptoBulkEntries {H : Type} : List (Lit × DataW H) → Nat
  | [] => 0
  | x :: r => uptoBulkEntry x + uptoBulkEntries r
def uptoBulkEntry {H : Type} : Lit × DataW H → Nat
  | (.string bytes, d) => bytes.length + uptoBulk d + 1
  | (_, d) => uptoBulk d + 1
 end
def uptoSmall : (H : Type) → List (DataW H) → Bool := fun _ ds => decide (uptoBulkAll ds ≤ 1048576)
def OpenSpec.upto (s : _root_.Go.ChangeSpec) : _root_.Go.OpenSpec := { _root_.Go.OpenSpec.ofChange s with cond := some uptoSmall }

/-- 'windowpanelaw26.RegistryValid', WHERE WHAT IT READS IS OF BULK AT MOST 1048576: true; the input reads as it did. -/
def registryValidUptoRow : OpenClaim := { program := "ytinffhpeahlhoaagreat", sum := "b0084481644cd3bbdb7d9bb2b205c6c0e7b0dd760063bb709ca9d8748164810b", func := "windowpane/windowpanelaw26.RegistryValid", spec := "registryValid", inPlace := ["math/bits.Add64"], unfollowed := true, recurses := true, apart := false, narrowed := true }
def RegistryValidUptoSaid : Prop := registryValidUptoRow.holds Tryz.pinned (OpenSpec.upto registryValidSpec)

/-- 'windowpanelaw26.RegistryChanges', WHERE WHAT IT READS IS OF BULK AT MOST 1048576: true; the input reads as it did. -/
def registryChangesUptoRow : OpenClaim := { program := "ytinffhpeahlhoaagreat", sum := "b0084481644cd3bbdb7d9bb2b205c6c0e7b0dd760063bb709ca9d8748164810b", func := "windowpane/windowpanelaw26.RegistryChanges", spec := "registryChanges", inPlace := ["math/bits.Add64"], unfollowed := true, recurses := true, apart := false, narrowed := true }
def RegistryChangesUptoSaid : Prop := registryChangesUptoRow.holds Tryz.pinned (OpenSpec.upto registryChangesSpec)

/-- 'windowpanelaw25.SynopsisNew', WHERE WHAT IT READS IS OF BULK AT MOST 1048576: true; the input reads as it did. -/
def synopsisNewUptoRow : OpenClaim := { program := "ytinffhpeahlhoaagreat", sum := "b0084481644cd3bbdb7d9bb2b205c6c0e7b0dd760063bb709ca9d8748164810b", func := "windowpane/windowpanelaw25.SynopsisNew", spec := "synopsisNew", inPlace := ["math/bits.Add64"], unfollowed := true, recurses := true, apart := false, narrowed := true }
def SynopsisNewUptoSaid : Prop := synopsisNewUptoRow.holds Tryz.pinned (OpenSpec.upto synopsisNewSpec)

/-- 'windowpanelaw25.SynopsisValidate', WHERE WHAT IT READS IS OF BULK AT MOST 1048576: true; the input reads as it did. -/
def synopsisValidateUptoRow : OpenClaim := { program := "ytinffhpeahlhoaagreat", sum := "b0084481644cd3bbdb7d9bb2b205c6c0e7b0dd760063bb709ca9d8748164810b", func := "windowpane/windowpanelaw25.SynopsisValidate", spec := "synopsisValidate", inPlace := ["math/bits.Add64"], unfollowed := true, recurses := true, apart := false, narrowed := true }
def SynopsisValidateUptoSaid : Prop := synopsisValidateUptoRow.holds Tryz.pinned (OpenSpec.upto synopsisValidateSpec)

/-- 'windowpanelaw25.SynopsisAdvance', WHERE WHAT IT READS IS OF BULK AT MOST 1048576: true; the input reads as it did. -/
def synopsisAdvanceUptoRow : OpenClaim := { program := "ytinffhpeahlhoaagreat", sum := "b0084481644cd3bbdb7d9bb2b205c6c0e7b0dd760063bb709ca9d8748164810b", func := "windowpane/windowpanelaw25.SynopsisAdvance", spec := "synopsisAdvance", inPlace := ["math/bits.Add64"], unfollowed := true, recurses := true, apart := false, narrowed := true }
def SynopsisAdvanceUptoSaid : Prop := synopsisAdvanceUptoRow.holds Tryz.pinned (OpenSpec.upto synopsisAdvanceSpec)

/-- 'windowpanelaw25.SynopsisAdd', WHERE WHAT IT READS IS OF BULK AT MOST 1048576: true; the input reads as it did. -/
def synopsisAddUptoRow : OpenClaim := { program := "ytinffhpeahlhoaagreat", sum := "b0084481644cd3bbdb7d9bb2b205c6c0e7b0dd760063bb709ca9d8748164810b", func := "windowpane/windowpanelaw25.SynopsisAdd", spec := "synopsisAdd", inPlace := ["math/bits.Add64"], unfollowed := true, recurses := true, apart := false, narrowed := true }
def SynopsisAddUptoSaid : Prop := synopsisAddUptoRow.holds Tryz.pinned (OpenSpec.upto synopsisAddSpec)

end Rows
end Go.Proofs.YtinffhpeahlhoaaGreat
