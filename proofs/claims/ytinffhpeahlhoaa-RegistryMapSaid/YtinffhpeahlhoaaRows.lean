/-
  No cell of these rows narrows 'for every input' (looked for: loops, veiled, ifaces, maps, wideKeys, modest, calm, conditions, laid).
  DERIVED. THE GIVEN ROWS OF THIS SEAT. 2 by the template 'for every input the law returns true; each argument reads behind the call as it read before'; 0 by the template 'total and deterministic' (their statements: YtinffhpeahlhoaaTotals.lean).
  GIVEN WITH THE SEED: the statements are not yours to turn. If you find one false, say at which input.
  Laid BY PROGRAM, IN A SANDBOX (cutbox-rows.mjs): the forced cells as the released guide's own fill.sh prints them over the translation 484af537073bd687… (all of the seat's roots in one cut). By AI agents, Wed Nov 11 2026. No macro, syntax, notation, axiom, sorry.
-/
import Derived.Test.YtinffhpeahlhoaaChecked
import GoSem.Claim
import GoSem.ClaimJoined
import GoSem.ClaimMapViews
import Derived.JoinedTies
import Derived.KernelRfl
namespace Go.Proofs.Ytinffhpeahlhoaa
/- THE CELL 'sum', in the pinned program and in every row, IS THE sha256 OF THE DUMP (.gsa) THAT YtinffhpeahlhoaaProg.lean LOADS. Nothing in Lean hashes anything: it is a label: what it is worth is what the hold of that sum in a sandbox is worth. -/
noncomputable def Try.pinned : Pinned := { name := "ytinffhpeahlhoaa", sum := "484af537073bd687df9569929357ead57f71e6ddafb4b4bdfee17c94022ed35e", checked := Try.checked }
namespace Rows
def none {H : Type} : Left H := { results := [], args := [] }

/-- 'windowpanelaw26.RegistryFind': WHATEVER THE INPUT: true; the input reads as it did. -/
def registryFindSpec : ChangeSpec := { name := "registryFind", fn := fun _ => fun
  | [d1, d2] => { results := [.lit (.bool true)], args := [d1, d2] }
  | _ => none }
def registryFindRow : OpenClaim := { program := "ytinffhpeahlhoaa", sum := "484af537073bd687df9569929357ead57f71e6ddafb4b4bdfee17c94022ed35e", func := "windowpane/windowpanelaw26.RegistryFind", spec := "registryFind", inPlace := ["math/bits.Add64"], unfollowed := true, recurses := true, apart := false }
def RegistryFindSaid : Prop := registryFindRow.holds Try.pinned (OpenSpec.ofChange registryFindSpec)

/-- ITS FALSE NEIGHBOUR: 'it returns false'. Refute it at one input. -/
def registryFindWrong : ChangeSpec := { name := "registryFind", fn := fun _ => fun
  | [d1, d2] => { results := [.lit (.bool false)], args := [d1, d2] }
  | _ => none }
def RegistryFindWrongFalsely : Prop := registryFindRow.holds Try.pinned (OpenSpec.ofChange registryFindWrong)

/-- 'windowpanelaw26.RegistryMap': WHATEVER THE INPUT: true; the input reads as it did. -/
def registryMapSpec : ChangeSpec := { name := "registryMap", fn := fun _ => fun
  | [d1, d2] => { results := [.lit (.bool true)], args := [d1, d2] }
  | _ => none }
def registryMapRow : OpenClaim := { program := "ytinffhpeahlhoaa", sum := "484af537073bd687df9569929357ead57f71e6ddafb4b4bdfee17c94022ed35e", func := "windowpane/windowpanelaw26.RegistryMap", spec := "registryMap", inPlace := ["math/bits.Add64"], unfollowed := true, recurses := true, apart := false }
def RegistryMapSaid : Prop := registryMapRow.holds Try.pinned (OpenSpec.ofChange registryMapSpec)

/-- ITS FALSE NEIGHBOUR: 'it returns false'. Refute it at one input. -/
def registryMapWrong : ChangeSpec := { name := "registryMap", fn := fun _ => fun
  | [d1, d2] => { results := [.lit (.bool false)], args := [d1, d2] }
  | _ => none }
def RegistryMapWrongFalsely : Prop := registryMapRow.holds Try.pinned (OpenSpec.ofChange registryMapWrong)

/- THE SECOND FORM. 'bulk': how many values and letters a reading holds, each counted each time it is reached (what is shared counts as often as it is met; a slice's spare places count too). A statement '..UptoSaid' is the law's where the arguments, and the package variables that the reading takes, are together of bulk at most 1048576: NARROWER than '..Said'. Prove '..Said' where nothing that the law and all that it calls make is longer than what came in: it says more and counts as full. Else prove '..UptoSaid'. A law counts once. -/
mutual
def uptoBulk {H : Type} : DataW H → Nat
  | .lit (.string bytes) => bytes.length + 1
  | .lit _ => 1
  | .nil => 1
  | .ptr d => uptoBulk d + 1
  | .slice elems spare => uptoBulkAll elems + uptoBulkAll spare + 1
  | .agg parts => uptoBulkAll parts + 1
  | .iface _ d => uptoBulk d + 1
  | .map entries => uptoBulkEntries entries + 1
  | .held _ => 1
def uptoBulkAll {H : Type} : List (DataW H) → Nat
  | [] => 0
  | d :: r => uptoBulk d + uptoBulkAll r
def uptoBulkEntries {H : Type} : List (Lit × DataW H) → Nat
  | [] => 0
  | x :: r => uptoBulkEntry x + uptoBulkEntries r
def uptoBulkEntry {H : Type} : Lit × DataW H → Nat
  | (.string bytes, d) => bytes.length + uptoBulk d + 1
  | (_, d) => uptoBulk d + 1
 end
def uptoSmall : (H : Type) → List (DataW H) → Bool := fun _ ds => decide (uptoBulkAll ds ≤ 1048576)
def OpenSpec.upto (s : _root_.Go.ChangeSpec) : _root_.Go.OpenSpec := { _root_.Go.OpenSpec.ofChange s with cond := some uptoSmall }

/-- 'windowpanelaw26.RegistryFind', WHERE WHAT IT READS IS OF BULK AT MOST 1048576: true; the input reads as it did. -/
def registryFindUptoRow : OpenClaim := { program := "ytinffhpeahlhoaa", sum := "484af537073bd687df9569929357ead57f71e6ddafb4b4bdfee17c94022ed35e", func := "windowpane/windowpanelaw26.RegistryFind", spec := "registryFind", inPlace := ["math/bits.Add64"], unfollowed := true, recurses := true, apart := false, narrowed := true }
def RegistryFindUptoSaid : Prop := registryFindUptoRow.holds Try.pinned (OpenSpec.upto registryFindSpec)

/-- 'windowpanelaw26.RegistryMap', WHERE WHAT IT READS IS OF BULK AT MOST 1048576: true; the input reads as it did. -/
def registryMapUptoRow : OpenClaim := { program := "ytinffhpeahlhoaa", sum := "484af537073bd687df9569929357ead57f71e6ddafb4b4bdfee17c94022ed35e", func := "windowpane/windowpanelaw26.RegistryMap", spec := "registryMap", inPlace := ["math/bits.Add64"], unfollowed := true, recurses := true, apart := false, narrowed := true }
def RegistryMapUptoSaid : Prop := registryMapUptoRow.holds Try.pinned (OpenSpec.upto registryMapSpec)

end Rows
end Go.Proofs.Ytinffhpeahlhoaa
