/-
  No cell of these rows narrows 'for every input' (looked for: loops, veiled, ifaces, maps, wideKeys, modest, calm, conditions, laid).
  DERIVED. THE GIVEN ROWS OF THIS SEAT. 3 by the template 'for every input the law returns true; each argument reads behind the call as it read before'; 0 by the template 'total and deterministic' (their statements: YtoljnakoodalpaaGreatTotals.lean).
  GIVEN WITH THE SEED: the statements are not yours to turn. If you find one false, say at which input.
  Laid BY PROGRAM, IN A SANDBOX (cutbox-rows.mjs): the forced cells as the released guide's own fill.sh prints them over the translation ab5aa89ab99a3746… (all of the seat's roots in one cut). By AI agents, Wed Nov 11 2026. No macro, syntax, notation, axiom, sorry.
-/
import Derived.Test.YtoljnakoodalpaaGreatChecked
import GoSem.Claim
import GoSem.ClaimJoined
import GoSem.ClaimMapViews
import Derived.JoinedTies
import Derived.KernelRfl
namespace Go.Proofs.YtoljnakoodalpaaGreat
/- THE CELL 'sum', in the pinned program and in every row, IS THE sha256 OF THE DUMP (.gsa) THAT YtoljnakoodalpaaGreatProg.lean LOADS. Nothing in Lean hashes anything: it is a label: what it is worth is what the hold of that sum in a sandbox is worth. -/
noncomputable def Tryz.pinned : Pinned := { name := "ytoljnakoodalpaagreat", sum := "ab5aa89ab99a3746f8e950f130b4ac7a3ae5a0620510ff165d92317edaee8062", checked := Tryz.checked }
namespace Rows
def none {H : Type} : Left H := { results := [], args := [] }

/-- 'windowpanelaw25.SynopsisAdd': WHATEVER THE INPUT: true; the input reads as it did. -/
def synopsisAddSpec : ChangeSpec := { name := "synopsisAdd", fn := fun _ => fun
  | [d1, d2, d3] => { results := [.lit (.bool true)], args := [d1, d2, d3] }
  | _ => none }
def synopsisAddRow : OpenClaim := { program := "ytoljnakoodalpaagreat", sum := "ab5aa89ab99a3746f8e950f130b4ac7a3ae5a0620510ff165d92317edaee8062", func := "windowpane/windowpanelaw25.SynopsisAdd", spec := "synopsisAdd", inPlace := ["math/bits.Add64"], unfollowed := true, recurses := true, apart := false }
def SynopsisAddSaid : Prop := synopsisAddRow.holds Tryz.pinned (OpenSpec.ofChange synopsisAddSpec)

/-- ITS FALSE NEIGHBOUR: 'it returns false'. Refute it at one input. -/
def synopsisAddWrong : ChangeSpec := { name := "synopsisAdd", fn := fun _ => fun
  | [d1, d2, d3] => { results := [.lit (.bool false)], args := [d1, d2, d3] }
  | _ => none }
def SynopsisAddWrongFalsely : Prop := synopsisAddRow.holds Tryz.pinned (OpenSpec.ofChange synopsisAddWrong)

/-- 'windowpanelaw25.SynopsisRuns': WHATEVER THE INPUT: true; the input reads as it did. -/
def synopsisRunsSpec : ChangeSpec := { name := "synopsisRuns", fn := fun _ => fun
  | [d1, d2, d3] => { results := [.lit (.bool true)], args := [d1, d2, d3] }
  | _ => none }
def synopsisRunsRow : OpenClaim := { program := "ytoljnakoodalpaagreat", sum := "ab5aa89ab99a3746f8e950f130b4ac7a3ae5a0620510ff165d92317edaee8062", func := "windowpane/windowpanelaw25.SynopsisRuns", spec := "synopsisRuns", inPlace := ["math/bits.Add64"], unfollowed := true, recurses := true, apart := false }
def SynopsisRunsSaid : Prop := synopsisRunsRow.holds Tryz.pinned (OpenSpec.ofChange synopsisRunsSpec)

/-- ITS FALSE NEIGHBOUR: 'it returns false'. Refute it at one input. -/
def synopsisRunsWrong : ChangeSpec := { name := "synopsisRuns", fn := fun _ => fun
  | [d1, d2, d3] => { results := [.lit (.bool false)], args := [d1, d2, d3] }
  | _ => none }
def SynopsisRunsWrongFalsely : Prop := synopsisRunsRow.holds Tryz.pinned (OpenSpec.ofChange synopsisRunsWrong)

/-- 'windowpanelaw25.SynopsisAsk': WHATEVER THE INPUT: true; the input reads as it did. -/
def synopsisAskSpec : ChangeSpec := { name := "synopsisAsk", fn := fun _ => fun
  | [d1, d2] => { results := [.lit (.bool true)], args := [d1, d2] }
  | _ => none }
def synopsisAskRow : OpenClaim := { program := "ytoljnakoodalpaagreat", sum := "ab5aa89ab99a3746f8e950f130b4ac7a3ae5a0620510ff165d92317edaee8062", func := "windowpane/windowpanelaw25.SynopsisAsk", spec := "synopsisAsk", inPlace := ["math/bits.Add64", "math/bits.Sub64"], unfollowed := true, recurses := true, named := ["math/bits.divideError", "math/bits.overflowError"], apart := false }
def SynopsisAskSaid : Prop := synopsisAskRow.holds Tryz.pinned (OpenSpec.ofChange synopsisAskSpec)

/-- ITS FALSE NEIGHBOUR: 'it returns false'. Refute it at one input. -/
def synopsisAskWrong : ChangeSpec := { name := "synopsisAsk", fn := fun _ => fun
  | [d1, d2] => { results := [.lit (.bool false)], args := [d1, d2] }
  | _ => none }
def SynopsisAskWrongFalsely : Prop := synopsisAskRow.holds Tryz.pinned (OpenSpec.ofChange synopsisAskWrong)

/- THE SECOND FORM. 'bulk': how many values and letters a reading holds, each counted each time it is reached (what is shared counts as often as it is met; a slice's spare places count too). A statement '..UptoSaid' is the law's where the arguments, and the package variables that the reading takes, are together of bulk at most 1048576: NARROWER than '..Said'. Prove '..Said' where nothing that the law and all that it calls make is longer than what came in: it says more and counts as full. Else prove '..UptoSaid'. A law counts once. -/
mutual
def uptoBulk {H : Type} : DataW H → Nat
  | .lit (.string bytes) => bytes.length + 1
  | .lit _ => 1
  | .nil => 1
  | .ptr d => uptoBulk d + 1
  | .slice elems spare => uptoBulkAll elems + uptoBulkAll spare + 1
  | .agg parts => uptoBulkAll parts + 1
  | .iface _ d => uptoBulk d + 1
  | .map entries => uptoBulkEntries entries + 1
  | .held _ => 1
def uptoBulkAll {H : Type} : List (DataW H) → Nat
  | [] => 0
  | d :: r => uptoBulk d + uptoBulkAll r
def uptoBulkEntries {H : Type} : List (Lit × DataW H) → Nat
  | [] => 0
  | x :: r => uptoBulkEntry x + uptoBulkEntries r
def uptoBulkEntry {H : Type} : Lit × DataW H → Nat
  | (.string bytes, d) => bytes.length + uptoBulk d + 1
  | (_, d) => uptoBulk d + 1
 end
def uptoSmall : (H : Type) → List (DataW H) → Bool := fun _ ds => decide (uptoBulkAll ds ≤ 1048576)
def OpenSpec.upto (s : _root_.Go.ChangeSpec) : _root_.Go.OpenSpec := { _root_.Go.OpenSpec.ofChange s with cond := some uptoSmall }

/-- 'windowpanelaw25.SynopsisAdd', WHERE WHAT IT READS IS OF BULK AT MOST 1048576: true; the input reads as it did. -/
def synopsisAddUptoRow : OpenClaim := { program := "ytoljnakoodalpaagreat", sum := "ab5aa89ab99a3746f8e950f130b4ac7a3ae5a0620510ff165d92317edaee8062", func := "windowpane/windowpanelaw25.SynopsisAdd", spec := "synopsisAdd", inPlace := ["math/bits.Add64"], unfollowed := true, recurses := true, apart := false, narrowed := true }
def SynopsisAddUptoSaid : Prop := synopsisAddUptoRow.holds Tryz.pinned (OpenSpec.upto synopsisAddSpec)

/-- 'windowpanelaw25.SynopsisRuns', WHERE WHAT IT READS IS OF BULK AT MOST 1048576: true; the input reads as it did. -/
def synopsisRunsUptoRow : OpenClaim := { program := "ytoljnakoodalpaagreat", sum := "ab5aa89ab99a3746f8e950f130b4ac7a3ae5a0620510ff165d92317edaee8062", func := "windowpane/windowpanelaw25.SynopsisRuns", spec := "synopsisRuns", inPlace := ["math/bits.Add64"], unfollowed := true, recurses := true, apart := false, narrowed := true }
def SynopsisRunsUptoSaid : Prop := synopsisRunsUptoRow.holds Tryz.pinned (OpenSpec.upto synopsisRunsSpec)

/-- 'windowpanelaw25.SynopsisAsk', WHERE WHAT IT READS IS OF BULK AT MOST 1048576: true; the input reads as it did. -/
def synopsisAskUptoRow : OpenClaim := { program := "ytoljnakoodalpaagreat", sum := "ab5aa89ab99a3746f8e950f130b4ac7a3ae5a0620510ff165d92317edaee8062", func := "windowpane/windowpanelaw25.SynopsisAsk", spec := "synopsisAsk", inPlace := ["math/bits.Add64", "math/bits.Sub64"], unfollowed := true, recurses := true, named := ["math/bits.divideError", "math/bits.overflowError"], apart := false, narrowed := true }
def SynopsisAskUptoSaid : Prop := synopsisAskUptoRow.holds Tryz.pinned (OpenSpec.upto synopsisAskSpec)

end Rows
end Go.Proofs.YtoljnakoodalpaaGreat
