/-
  No cell of these rows narrows 'for every input' (looked for: loops, veiled, ifaces, maps, wideKeys, modest, calm, conditions, laid).
  DERIVED. THE GIVEN ROWS OF THIS SEAT. 4 by the template 'for every input the law returns true; each argument reads behind the call as it read before'; 0 by the template 'total and deterministic' (their statements: YtmipeaidieflmaaTotals.lean).
  GIVEN WITH THE SEED: the statements are not yours to turn. If you find one false, say at which input.
  Laid BY PROGRAM, IN A SANDBOX (cutbox-rows.mjs): the forced cells as the released guide's own fill.sh prints them over the translation 78feafa4f0490e9c… (all of the seat's roots in one cut). By AI agents, Wed Nov 11 2026. No macro, syntax, notation, axiom, sorry.
-/
import Derived.Test.YtmipeaidieflmaaChecked
import GoSem.Claim
import GoSem.ClaimJoined
import GoSem.ClaimMapViews
import Derived.JoinedTies
import Derived.KernelRfl
namespace Go.Proofs.Ytmipeaidieflmaa
/- THE CELL 'sum', in the pinned program and in every row, IS THE sha256 OF THE DUMP (.gsa) THAT YtmipeaidieflmaaProg.lean LOADS. Nothing in Lean hashes anything: it is a label: what it is worth is what the hold of that sum in a sandbox is worth. -/
noncomputable def Try.pinned : Pinned := { name := "ytmipeaidieflmaa", sum := "78feafa4f0490e9c0a2d00aa7ae420f1ecc4661778d51b3ca3c64c26e47ef6c7", checked := Try.checked }
namespace Rows
def none {H : Type} : Left H := { results := [], args := [] }

/-- 'windowpanelaw30.ScriptJoins': WHATEVER THE INPUT: true; the input reads as it did. -/
def scriptJoinsSpec : ChangeSpec := { name := "scriptJoins", fn := fun _ => fun
  | [d] => { results := [.lit (.bool true)], args := [d] }
  | _ => none }
def scriptJoinsRow : OpenClaim := { program := "ytmipeaidieflmaa", sum := "78feafa4f0490e9c0a2d00aa7ae420f1ecc4661778d51b3ca3c64c26e47ef6c7", func := "windowpane/windowpanelaw30.ScriptJoins", spec := "scriptJoins", unfollowed := true, recurses := true, apart := false }
def ScriptJoinsSaid : Prop := scriptJoinsRow.holds Try.pinned (OpenSpec.ofChange scriptJoinsSpec)

/-- ITS FALSE NEIGHBOUR: 'it returns false'. Refute it at one input. -/
def scriptJoinsWrong : ChangeSpec := { name := "scriptJoins", fn := fun _ => fun
  | [d] => { results := [.lit (.bool false)], args := [d] }
  | _ => none }
def ScriptJoinsWrongFalsely : Prop := scriptJoinsRow.holds Try.pinned (OpenSpec.ofChange scriptJoinsWrong)

/-- 'windowpanelaw30.ScriptSplits': WHATEVER THE INPUT: true; the input reads as it did. -/
def scriptSplitsSpec : ChangeSpec := { name := "scriptSplits", fn := fun _ => fun
  | [d] => { results := [.lit (.bool true)], args := [d] }
  | _ => none }
def scriptSplitsRow : OpenClaim := { program := "ytmipeaidieflmaa", sum := "78feafa4f0490e9c0a2d00aa7ae420f1ecc4661778d51b3ca3c64c26e47ef6c7", func := "windowpane/windowpanelaw30.ScriptSplits", spec := "scriptSplits", unfollowed := true, recurses := true, apart := false }
def ScriptSplitsSaid : Prop := scriptSplitsRow.holds Try.pinned (OpenSpec.ofChange scriptSplitsSpec)

/-- ITS FALSE NEIGHBOUR: 'it returns false'. Refute it at one input. -/
def scriptSplitsWrong : ChangeSpec := { name := "scriptSplits", fn := fun _ => fun
  | [d] => { results := [.lit (.bool false)], args := [d] }
  | _ => none }
def ScriptSplitsWrongFalsely : Prop := scriptSplitsRow.holds Try.pinned (OpenSpec.ofChange scriptSplitsWrong)

/-- 'windowpanelaw30.ScriptReplies': WHATEVER THE INPUT: true; the input reads as it did. -/
def scriptRepliesSpec : ChangeSpec := { name := "scriptReplies", fn := fun _ => fun
  | [d] => { results := [.lit (.bool true)], args := [d] }
  | _ => none }
def scriptRepliesRow : OpenClaim := { program := "ytmipeaidieflmaa", sum := "78feafa4f0490e9c0a2d00aa7ae420f1ecc4661778d51b3ca3c64c26e47ef6c7", func := "windowpane/windowpanelaw30.ScriptReplies", spec := "scriptReplies", unfollowed := true, recurses := true, apart := false }
def ScriptRepliesSaid : Prop := scriptRepliesRow.holds Try.pinned (OpenSpec.ofChange scriptRepliesSpec)

/-- ITS FALSE NEIGHBOUR: 'it returns false'. Refute it at one input. -/
def scriptRepliesWrong : ChangeSpec := { name := "scriptReplies", fn := fun _ => fun
  | [d] => { results := [.lit (.bool false)], args := [d] }
  | _ => none }
def ScriptRepliesWrongFalsely : Prop := scriptRepliesRow.holds Try.pinned (OpenSpec.ofChange scriptRepliesWrong)

/-- 'windowpanelaw21.RankTruth': WHATEVER THE INPUT: true; the input reads as it did. -/
def rankTruthSpec : ChangeSpec := { name := "rankTruth", fn := fun _ => fun
  | [d1, d2, d3] => { results := [.lit (.bool true)], args := [d1, d2, d3] }
  | _ => none }
def rankTruthRow : OpenClaim := { program := "ytmipeaidieflmaa", sum := "78feafa4f0490e9c0a2d00aa7ae420f1ecc4661778d51b3ca3c64c26e47ef6c7", func := "windowpane/windowpanelaw21.RankTruth", spec := "rankTruth", recurses := true, apart := false }
def RankTruthSaid : Prop := rankTruthRow.holds Try.pinned (OpenSpec.ofChange rankTruthSpec)

/-- ITS FALSE NEIGHBOUR: 'it returns false'. Refute it at one input. -/
def rankTruthWrong : ChangeSpec := { name := "rankTruth", fn := fun _ => fun
  | [d1, d2, d3] => { results := [.lit (.bool false)], args := [d1, d2, d3] }
  | _ => none }
def RankTruthWrongFalsely : Prop := rankTruthRow.holds Try.pinned (OpenSpec.ofChange rankTruthWrong)

/- THE SECOND FORM. 'bulk': how many values and letters a reading holds, each counted each time it is reached (what is shared counts as often as it is met; a slice's spare places count too). A statement '..UptoSaid' is the law's where the arguments, and the package variables that the reading takes, are together of bulk at most 1048576: NARROWER than '..Said'. Prove '..Said' where nothing that the law and all that it calls make is longer than what came in: it says more and counts as full. Else prove '..UptoSaid'. A law counts once. -/
mutual
def uptoBulk {H : Type} : DataW H → Nat
  | .lit (.string bytes) => bytes.length + 1
  | .lit _ => 1
  | .nil => 1
  | .ptr d => uptoBulk d + 1
  | .slice elems spare => uptoBulkAll elems + uptoBulkAll spare + 1
  | .agg parts => uptoBulkAll parts + 1
  | .iface _ d => uptoBulk d + 1
  | .map entries => uptoBulkEntries entries + 1
  | .held _ => 1
def uptoBulkAll {H : Type} : List (DataW H) → Nat
  | [] => 0
  | d :: r => uptoBulk d + uptoBulkAll r
def uptoBulkEntries {H : Type} : List (Lit × DataW H) → Nat
  | [] => 0
  | x :: r => uptoBulkEntry x + uptoBulkEntries r
def uptoBulkEntry {H : Type} : Lit × DataW H → Nat
  | (.string bytes, d) => bytes.length + uptoBulk d + 1
  | (_, d) => uptoBulk d + 1
 end
def uptoSmall : (H : Type) → List (DataW H) → Bool := fun _ ds => decide (uptoBulkAll ds ≤ 1048576)
def OpenSpec.upto (s : _root_.Go.ChangeSpec) : _root_.Go.OpenSpec := { _root_.Go.OpenSpec.ofChange s with cond := some uptoSmall }

/-- 'windowpanelaw30.ScriptJoins', WHERE WHAT IT READS IS OF BULK AT MOST 1048576: true; the input reads as it did. -/
def scriptJoinsUptoRow : OpenClaim := { program := "ytmipeaidieflmaa", sum := "78feafa4f0490e9c0a2d00aa7ae420f1ecc4661778d51b3ca3c64c26e47ef6c7", func := "windowpane/windowpanelaw30.ScriptJoins", spec := "scriptJoins", unfollowed := true, recurses := true, apart := false, narrowed := true }
def ScriptJoinsUptoSaid : Prop := scriptJoinsUptoRow.holds Try.pinned (OpenSpec.upto scriptJoinsSpec)

/-- 'windowpanelaw30.ScriptSplits', WHERE WHAT IT READS IS OF BULK AT MOST 1048576: true; the input reads as it did. -/
def scriptSplitsUptoRow : OpenClaim := { program := "ytmipeaidieflmaa", sum := "78feafa4f0490e9c0a2d00aa7ae420f1ecc4661778d51b3ca3c64c26e47ef6c7", func := "windowpane/windowpanelaw30.ScriptSplits", spec := "scriptSplits", unfollowed := true, recurses := true, apart := false, narrowed := true }
def ScriptSplitsUptoSaid : Prop := scriptSplitsUptoRow.holds Try.pinned (OpenSpec.upto scriptSplitsSpec)

/-- 'windowpanelaw30.ScriptReplies', WHERE WHAT IT READS IS OF BULK AT MOST 1048576: true; the input reads as it did. -/
def scriptRepliesUptoRow : OpenClaim := { program := "ytmipeaidieflmaa", sum := "78feafa4f0490e9c0a2d00aa7ae420f1ecc4661778d51b3ca3c64c26e47ef6c7", func := "windowpane/windowpanelaw30.ScriptReplies", spec := "scriptReplies", unfollowed := true, recurses := true, apart := false, narrowed := true }
def ScriptRepliesUptoSaid : Prop := scriptRepliesUptoRow.holds Try.pinned (OpenSpec.upto scriptRepliesSpec)

/-- 'windowpanelaw21.RankTruth', WHERE WHAT IT READS IS OF BULK AT MOST 1048576: true; the input reads as it did. -/
def rankTruthUptoRow : OpenClaim := { program := "ytmipeaidieflmaa", sum := "78feafa4f0490e9c0a2d00aa7ae420f1ecc4661778d51b3ca3c64c26e47ef6c7", func := "windowpane/windowpanelaw21.RankTruth", spec := "rankTruth", recurses := true, apart := false, narrowed := true }
def RankTruthUptoSaid : Prop := rankTruthUptoRow.holds Try.pinned (OpenSpec.upto rankTruthSpec)

end Rows
end Go.Proofs.Ytmipeaidieflmaa
