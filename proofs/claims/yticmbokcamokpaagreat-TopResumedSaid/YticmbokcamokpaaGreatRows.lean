/-
  No cell of these rows narrows 'for every input' (looked for: loops, veiled, ifaces, maps, wideKeys, modest, calm, conditions, laid).
  DERIVED. THE GIVEN ROWS OF THIS SEAT. 5 by the template 'for every input the law returns true; each argument reads behind the call as it read before'; 0 by the template 'total and deterministic' (their statements: YticmbokcamokpaaGreatTotals.lean).
  GIVEN WITH THE SEED: the statements are not yours to turn. If you find one false, say at which input.
  Laid BY PROGRAM, IN A SANDBOX (cutbox-rows.mjs): the forced cells as the released guide's own fill.sh prints them over the translation f356d43b885aaa8e… (all of the seat's roots in one cut). By AI agents, Wed Nov 11 2026. No macro, syntax, notation, axiom, sorry.
-/
import Derived.Test.YticmbokcamokpaaGreatChecked
import GoSem.Claim
import GoSem.ClaimJoined
import GoSem.ClaimMapViews
import Derived.JoinedTies
import Derived.KernelRfl
namespace Go.Proofs.YticmbokcamokpaaGreat
/- THE CELL 'sum', in the pinned program and in every row, IS THE sha256 OF THE DUMP (.gsa) THAT YticmbokcamokpaaGreatProg.lean LOADS. Nothing in Lean hashes anything: it is a label: what it is worth is what the hold of that sum in a sandbox is worth. -/
noncomputable def Tryz.pinned : Pinned := { name := "yticmbokcamokpaagreat", sum := "f356d43b885aaa8e08752b902f1b034f4358ae5ffd7f640a6f6fcbdb822514fd", checked := Tryz.checked }
namespace Rows
def none {H : Type} : Left H := { results := [], args := [] }

/-- 'windowpanetop.TopCoded': WHATEVER THE INPUT: true; the input reads as it did. -/
def topCodedSpec : ChangeSpec := { name := "topCoded", fn := fun _ => fun
  | [d1, d2] => { results := [.lit (.bool true)], args := [d1, d2] }
  | _ => none }
def topCodedRow : OpenClaim := { program := "yticmbokcamokpaagreat", sum := "f356d43b885aaa8e08752b902f1b034f4358ae5ffd7f640a6f6fcbdb822514fd", func := "windowpane/windowpanetop.TopCoded", spec := "topCoded", inPlace := ["math/bits.Add64", "math/bits.Sub64"], unfollowed := true, recurses := true, named := ["math/bits.divideError", "math/bits.overflowError"], apart := false }
def TopCodedSaid : Prop := topCodedRow.holds Tryz.pinned (OpenSpec.ofChange topCodedSpec)

/-- ITS FALSE NEIGHBOUR: 'it returns false'. Refute it at one input. -/
def topCodedWrong : ChangeSpec := { name := "topCoded", fn := fun _ => fun
  | [d1, d2] => { results := [.lit (.bool false)], args := [d1, d2] }
  | _ => none }
def TopCodedWrongFalsely : Prop := topCodedRow.holds Tryz.pinned (OpenSpec.ofChange topCodedWrong)

/-- 'windowpanelaw30.ScriptParts': WHATEVER THE INPUT: true; the input reads as it did. -/
def scriptPartsSpec : ChangeSpec := { name := "scriptParts", fn := fun _ => fun
  | [d1, d2, d3, d4] => { results := [.lit (.bool true)], args := [d1, d2, d3, d4] }
  | _ => none }
def scriptPartsRow : OpenClaim := { program := "yticmbokcamokpaagreat", sum := "f356d43b885aaa8e08752b902f1b034f4358ae5ffd7f640a6f6fcbdb822514fd", func := "windowpane/windowpanelaw30.ScriptParts", spec := "scriptParts", inPlace := ["math/bits.Add64", "math/bits.Sub64"], unfollowed := true, recurses := true, named := ["math/bits.divideError", "math/bits.overflowError"], apart := false }
def ScriptPartsSaid : Prop := scriptPartsRow.holds Tryz.pinned (OpenSpec.ofChange scriptPartsSpec)

/-- ITS FALSE NEIGHBOUR: 'it returns false'. Refute it at one input. -/
def scriptPartsWrong : ChangeSpec := { name := "scriptParts", fn := fun _ => fun
  | [d1, d2, d3, d4] => { results := [.lit (.bool false)], args := [d1, d2, d3, d4] }
  | _ => none }
def ScriptPartsWrongFalsely : Prop := scriptPartsRow.holds Tryz.pinned (OpenSpec.ofChange scriptPartsWrong)

/-- 'windowpanelaw30.ScriptCommands': WHATEVER THE INPUT: true; the input reads as it did. -/
def scriptCommandsSpec : ChangeSpec := { name := "scriptCommands", fn := fun _ => fun
  | [d1, d2] => { results := [.lit (.bool true)], args := [d1, d2] }
  | _ => none }
def scriptCommandsRow : OpenClaim := { program := "yticmbokcamokpaagreat", sum := "f356d43b885aaa8e08752b902f1b034f4358ae5ffd7f640a6f6fcbdb822514fd", func := "windowpane/windowpanelaw30.ScriptCommands", spec := "scriptCommands", inPlace := ["math/bits.Add64", "math/bits.Sub64"], unfollowed := true, recurses := true, named := ["math/bits.divideError", "math/bits.overflowError"], apart := false }
def ScriptCommandsSaid : Prop := scriptCommandsRow.holds Tryz.pinned (OpenSpec.ofChange scriptCommandsSpec)

/-- ITS FALSE NEIGHBOUR: 'it returns false'. Refute it at one input. -/
def scriptCommandsWrong : ChangeSpec := { name := "scriptCommands", fn := fun _ => fun
  | [d1, d2] => { results := [.lit (.bool false)], args := [d1, d2] }
  | _ => none }
def ScriptCommandsWrongFalsely : Prop := scriptCommandsRow.holds Tryz.pinned (OpenSpec.ofChange scriptCommandsWrong)

/-- 'windowpanetop.TopResumed': WHATEVER THE INPUT: true; the input reads as it did. -/
def topResumedSpec : ChangeSpec := { name := "topResumed", fn := fun _ => fun
  | [d1, d2, d3] => { results := [.lit (.bool true)], args := [d1, d2, d3] }
  | _ => none }
def topResumedRow : OpenClaim := { program := "yticmbokcamokpaagreat", sum := "f356d43b885aaa8e08752b902f1b034f4358ae5ffd7f640a6f6fcbdb822514fd", func := "windowpane/windowpanetop.TopResumed", spec := "topResumed", inPlace := ["math/bits.Add64", "math/bits.Sub64"], unfollowed := true, recurses := true, named := ["math/bits.divideError", "math/bits.overflowError"], apart := false }
def TopResumedSaid : Prop := topResumedRow.holds Tryz.pinned (OpenSpec.ofChange topResumedSpec)

/-- ITS FALSE NEIGHBOUR: 'it returns false'. Refute it at one input. -/
def topResumedWrong : ChangeSpec := { name := "topResumed", fn := fun _ => fun
  | [d1, d2, d3] => { results := [.lit (.bool false)], args := [d1, d2, d3] }
  | _ => none }
def TopResumedWrongFalsely : Prop := topResumedRow.holds Tryz.pinned (OpenSpec.ofChange topResumedWrong)

/-- 'windowpanetop.TopTotal': WHATEVER THE INPUT: true; the input reads as it did. -/
def topTotalSpec : ChangeSpec := { name := "topTotal", fn := fun _ => fun
  | [d1, d2] => { results := [.lit (.bool true)], args := [d1, d2] }
  | _ => none }
def topTotalRow : OpenClaim := { program := "yticmbokcamokpaagreat", sum := "f356d43b885aaa8e08752b902f1b034f4358ae5ffd7f640a6f6fcbdb822514fd", func := "windowpane/windowpanetop.TopTotal", spec := "topTotal", inPlace := ["math/bits.Add64", "math/bits.Sub64"], unfollowed := true, recurses := true, named := ["math/bits.divideError", "math/bits.overflowError"], apart := false }
def TopTotalSaid : Prop := topTotalRow.holds Tryz.pinned (OpenSpec.ofChange topTotalSpec)

/-- ITS FALSE NEIGHBOUR: 'it returns false'. Refute it at one input. -/
def topTotalWrong : ChangeSpec := { name := "topTotal", fn := fun _ => fun
  | [d1, d2] => { results := [.lit (.bool false)], args := [d1, d2] }
  | _ => none }
def TopTotalWrongFalsely : Prop := topTotalRow.holds Tryz.pinned (OpenSpec.ofChange topTotalWrong)

/- THE SECOND FORM. 'bulk': how many values and letters a reading holds, each counted each time it is reached (what is shared counts as often as it is met; a slice's spare places count too). A statement '..UptoSaid' is the law's where the arguments, and the package variables that the reading takes, are together of bulk at most 1048576: NARROWER than '..Said'. Prove '..Said' where nothing that the law and all that it calls make is longer than what came in: it says more and counts as full. Else prove '..UptoSaid'. A law counts once. -/
mutual
def uptoBulk {H : Type} : DataW H → Nat
  | .lit (.string bytes) => bytes.length + 1
  | .lit _ => 1
  | .nil => 1
  | .ptr d => uptoBulk d + 1
  | .slice elems spare => uptoBulkAll elems + uptoBulkAll spare + 1
  | .agg parts => uptoBulkAll parts + 1
  | .iface _ d => uptoBulk d + 1
  | .map entries => uptoBulkEntries entries + 1
  | .held _ => 1
def uptoBulkAll {H : Type} : List (DataW H) → Nat
  | [] => 0
  | d :: r => uptoBulk d + uptoBulkAll r
def uptoBulkEntries {H : Type} : List (Lit × DataW H) → Nat
  | [] => 0
  | x :: r => uptoBulkEntry x + uptoBulkEntries r
def uptoBulkEntry {H : Type} : Lit × DataW H → Nat
  | (.string bytes, d) => bytes.length + uptoBulk d + 1
  | (_, d) => uptoBulk d + 1
 end
def uptoSmall : (H : Type) → List (DataW H) → Bool := fun _ ds => decide (uptoBulkAll ds ≤ 1048576)
def OpenSpec.upto (s : _root_.Go.ChangeSpec) : _root_.Go.OpenSpec := { _root_.Go.OpenSpec.ofChange s with cond := some uptoSmall }

/-- 'windowpanetop.TopCoded', WHERE WHAT IT READS IS OF BULK AT MOST 1048576: true; the input reads as it did. -/
def topCodedUptoRow : OpenClaim := { program := "yticmbokcamokpaagreat", sum := "f356d43b885aaa8e08752b902f1b034f4358ae5ffd7f640a6f6fcbdb822514fd", func := "windowpane/windowpanetop.TopCoded", spec := "topCoded", inPlace := ["math/bits.Add64", "math/bits.Sub64"], unfollowed := true, recurses := true, named := ["math/bits.divideError", "math/bits.overflowError"], apart := false, narrowed := true }
def TopCodedUptoSaid : Prop := topCodedUptoRow.holds Tryz.pinned (OpenSpec.upto topCodedSpec)

/-- 'windowpanelaw30.ScriptParts', WHERE WHAT IT READS IS OF BULK AT MOST 1048576: true; the input reads as it did. -/
def scriptPartsUptoRow : OpenClaim := { program := "yticmbokcamokpaagreat", sum := "f356d43b885aaa8e08752b902f1b034f4358ae5ffd7f640a6f6fcbdb822514fd", func := "windowpane/windowpanelaw30.ScriptParts", spec := "scriptParts", inPlace := ["math/bits.Add64", "math/bits.Sub64"], unfollowed := true, recurses := true, named := ["math/bits.divideError", "math/bits.overflowError"], apart := false, narrowed := true }
def ScriptPartsUptoSaid : Prop := scriptPartsUptoRow.holds Tryz.pinned (OpenSpec.upto scriptPartsSpec)

/-- 'windowpanelaw30.ScriptCommands', WHERE WHAT IT READS IS OF BULK AT MOST 1048576: true; the input reads as it did. -/
def scriptCommandsUptoRow : OpenClaim := { program := "yticmbokcamokpaagreat", sum := "f356d43b885aaa8e08752b902f1b034f4358ae5ffd7f640a6f6fcbdb822514fd", func := "windowpane/windowpanelaw30.ScriptCommands", spec := "scriptCommands", inPlace := ["math/bits.Add64", "math/bits.Sub64"], unfollowed := true, recurses := true, named := ["math/bits.divideError", "math/bits.overflowError"], apart := false, narrowed := true }
def ScriptCommandsUptoSaid : Prop := scriptCommandsUptoRow.holds Tryz.pinned (OpenSpec.upto scriptCommandsSpec)

/-- 'windowpanetop.TopResumed', WHERE WHAT IT READS IS OF BULK AT MOST 1048576: true; the input reads as it did. -/
def topResumedUptoRow : OpenClaim := { program := "yticmbokcamokpaagreat", sum := "f356d43b885aaa8e08752b902f1b034f4358ae5ffd7f640a6f6fcbdb822514fd", func := "windowpane/windowpanetop.TopResumed", spec := "topResumed", inPlace := ["math/bits.Add64", "math/bits.Sub64"], unfollowed := true, recurses := true, named := ["math/bits.divideError", "math/bits.overflowError"], apart := false, narrowed := true }
def TopResumedUptoSaid : Prop := topResumedUptoRow.holds Tryz.pinned (OpenSpec.upto topResumedSpec)

/-- 'windowpanetop.TopTotal', WHERE WHAT IT READS IS OF BULK AT MOST 1048576: true; the input reads as it did. -/
def topTotalUptoRow : OpenClaim := { program := "yticmbokcamokpaagreat", sum := "f356d43b885aaa8e08752b902f1b034f4358ae5ffd7f640a6f6fcbdb822514fd", func := "windowpane/windowpanetop.TopTotal", spec := "topTotal", inPlace := ["math/bits.Add64", "math/bits.Sub64"], unfollowed := true, recurses := true, named := ["math/bits.divideError", "math/bits.overflowError"], apart := false, narrowed := true }
def TopTotalUptoSaid : Prop := topTotalUptoRow.holds Tryz.pinned (OpenSpec.upto topTotalSpec)

end Rows
end Go.Proofs.YticmbokcamokpaaGreat
