/-
  No cell of these rows narrows 'for every input' (looked for: loops, veiled, ifaces, maps, wideKeys, modest, calm, conditions, laid).
  DERIVED. THE GIVEN ROWS OF THIS SEAT. 6 by the template 'for every input the law returns true; each argument reads behind the call as it read before'; 0 by the template 'total and deterministic' (their statements: YtkakobhohikfkaaGreatTotals.lean).
  GIVEN WITH THE SEED: the statements are not yours to turn. If you find one false, say at which input.
  Laid BY PROGRAM, IN A SANDBOX (cutbox-rows.mjs): the forced cells as the released guide's own fill.sh prints them over the translation f61725f4fc9da744… (all of the seat's roots in one cut). By AI agents, Wed Nov 11 2026. No macro, syntax, notation, axiom, sorry.
-/
import Derived.Test.YtkakobhohikfkaaGreatChecked
import GoSem.Claim
import GoSem.ClaimJoined
import GoSem.ClaimMapViews
import Derived.JoinedTies
import Derived.KernelRfl
namespace Go.Proofs.YtkakobhohikfkaaGreat
/- THE CELL 'sum', in the pinned program and in every row, IS THE sha256 OF THE DUMP (.gsa) THAT YtkakobhohikfkaaGreatProg.lean LOADS. Nothing in Lean hashes anything: it is a label: what it is worth is what the hold of that sum in a sandbox is worth. -/
noncomputable def Tryz.pinned : Pinned := { name := "ytkakobhohikfkaagreat", sum := "f61725f4fc9da744ce2b49cad212698a3a76a73098de8eb6b554c3ae2be05ed0", checked := Tryz.checked }
namespace Rows
def none {H : Type} : Left H := { results := [], args := [] }

/-- 'windowpanetop.TopRefused': WHATEVER THE INPUT: true; the input reads as it did. -/
def topRefusedSpec : ChangeSpec := { name := "topRefused", fn := fun _ => fun
  | [d1, d2] => { results := [.lit (.bool true)], args := [d1, d2] }
  | _ => none }
def topRefusedRow : OpenClaim := { program := "ytkakobhohikfkaagreat", sum := "f61725f4fc9da744ce2b49cad212698a3a76a73098de8eb6b554c3ae2be05ed0", func := "windowpane/windowpanetop.TopRefused", spec := "topRefused", inPlace := ["math/bits.Add64", "math/bits.Sub64"], unfollowed := true, recurses := true, named := ["math/bits.divideError", "math/bits.overflowError"], apart := false }
def TopRefusedSaid : Prop := topRefusedRow.holds Tryz.pinned (OpenSpec.ofChange topRefusedSpec)

/-- ITS FALSE NEIGHBOUR: 'it returns false'. Refute it at one input. -/
def topRefusedWrong : ChangeSpec := { name := "topRefused", fn := fun _ => fun
  | [d1, d2] => { results := [.lit (.bool false)], args := [d1, d2] }
  | _ => none }
def TopRefusedWrongFalsely : Prop := topRefusedRow.holds Tryz.pinned (OpenSpec.ofChange topRefusedWrong)

/-- 'windowpanetop.TopRecords': WHATEVER THE INPUT: true; the input reads as it did. -/
def topRecordsSpec : ChangeSpec := { name := "topRecords", fn := fun _ => fun
  | [d] => { results := [.lit (.bool true)], args := [d] }
  | _ => none }
def topRecordsRow : OpenClaim := { program := "ytkakobhohikfkaagreat", sum := "f61725f4fc9da744ce2b49cad212698a3a76a73098de8eb6b554c3ae2be05ed0", func := "windowpane/windowpanetop.TopRecords", spec := "topRecords", inPlace := ["math/bits.Add64", "math/bits.Sub64"], unfollowed := true, recurses := true, named := ["math/bits.divideError", "math/bits.overflowError"], apart := false }
def TopRecordsSaid : Prop := topRecordsRow.holds Tryz.pinned (OpenSpec.ofChange topRecordsSpec)

/-- ITS FALSE NEIGHBOUR: 'it returns false'. Refute it at one input. -/
def topRecordsWrong : ChangeSpec := { name := "topRecords", fn := fun _ => fun
  | [d] => { results := [.lit (.bool false)], args := [d] }
  | _ => none }
def TopRecordsWrongFalsely : Prop := topRecordsRow.holds Tryz.pinned (OpenSpec.ofChange topRecordsWrong)

/-- 'windowpanetop.TopCoded': WHATEVER THE INPUT: true; the input reads as it did. -/
def topCodedSpec : ChangeSpec := { name := "topCoded", fn := fun _ => fun
  | [d1, d2] => { results := [.lit (.bool true)], args := [d1, d2] }
  | _ => none }
def topCodedRow : OpenClaim := { program := "ytkakobhohikfkaagreat", sum := "f61725f4fc9da744ce2b49cad212698a3a76a73098de8eb6b554c3ae2be05ed0", func := "windowpane/windowpanetop.TopCoded", spec := "topCoded", inPlace := ["math/bits.Add64", "math/bits.Sub64"], unfollowed := true, recurses := true, named := ["math/bits.divideError", "math/bits.overflowError"], apart := false }
def TopCodedSaid : Prop := topCodedRow.holds Tryz.pinned (OpenSpec.ofChange topCodedSpec)

/-- ITS FALSE NEIGHBOUR: 'it returns false'. Refute it at one input. -/
def topCodedWrong : ChangeSpec := { name := "topCoded", fn := fun _ => fun
  | [d1, d2] => { results := [.lit (.bool false)], args := [d1, d2] }
  | _ => none }
def TopCodedWrongFalsely : Prop := topCodedRow.holds Tryz.pinned (OpenSpec.ofChange topCodedWrong)

/-- 'windowpanelaw29.EngineRefuses': WHATEVER THE INPUT: true; the input reads as it did. -/
def engineRefusesSpec : ChangeSpec := { name := "engineRefuses", fn := fun _ => fun
  | [d1, d2] => { results := [.lit (.bool true)], args := [d1, d2] }
  | _ => none }
def engineRefusesRow : OpenClaim := { program := "ytkakobhohikfkaagreat", sum := "f61725f4fc9da744ce2b49cad212698a3a76a73098de8eb6b554c3ae2be05ed0", func := "windowpane/windowpanelaw29.EngineRefuses", spec := "engineRefuses", inPlace := ["math/bits.Add64", "math/bits.Sub64"], unfollowed := true, recurses := true, named := ["math/bits.divideError", "math/bits.overflowError"], apart := false }
def EngineRefusesSaid : Prop := engineRefusesRow.holds Tryz.pinned (OpenSpec.ofChange engineRefusesSpec)

/-- ITS FALSE NEIGHBOUR: 'it returns false'. Refute it at one input. -/
def engineRefusesWrong : ChangeSpec := { name := "engineRefuses", fn := fun _ => fun
  | [d1, d2] => { results := [.lit (.bool false)], args := [d1, d2] }
  | _ => none }
def EngineRefusesWrongFalsely : Prop := engineRefusesRow.holds Tryz.pinned (OpenSpec.ofChange engineRefusesWrong)

/-- 'windowpanelaw29.EngineBatches': WHATEVER THE INPUT: true; the input reads as it did. -/
def engineBatchesSpec : ChangeSpec := { name := "engineBatches", fn := fun _ => fun
  | [d1, d2] => { results := [.lit (.bool true)], args := [d1, d2] }
  | _ => none }
def engineBatchesRow : OpenClaim := { program := "ytkakobhohikfkaagreat", sum := "f61725f4fc9da744ce2b49cad212698a3a76a73098de8eb6b554c3ae2be05ed0", func := "windowpane/windowpanelaw29.EngineBatches", spec := "engineBatches", inPlace := ["math/bits.Add64", "math/bits.Sub64"], unfollowed := true, recurses := true, named := ["math/bits.divideError", "math/bits.overflowError"], apart := false }
def EngineBatchesSaid : Prop := engineBatchesRow.holds Tryz.pinned (OpenSpec.ofChange engineBatchesSpec)

/-- ITS FALSE NEIGHBOUR: 'it returns false'. Refute it at one input. -/
def engineBatchesWrong : ChangeSpec := { name := "engineBatches", fn := fun _ => fun
  | [d1, d2] => { results := [.lit (.bool false)], args := [d1, d2] }
  | _ => none }
def EngineBatchesWrongFalsely : Prop := engineBatchesRow.holds Tryz.pinned (OpenSpec.ofChange engineBatchesWrong)

/-- 'windowpanelaw29.EngineAlone': WHATEVER THE INPUT: true; the input reads as it did. -/
def engineAloneSpec : ChangeSpec := { name := "engineAlone", fn := fun _ => fun
  | [d1, d2] => { results := [.lit (.bool true)], args := [d1, d2] }
  | _ => none }
def engineAloneRow : OpenClaim := { program := "ytkakobhohikfkaagreat", sum := "f61725f4fc9da744ce2b49cad212698a3a76a73098de8eb6b554c3ae2be05ed0", func := "windowpane/windowpanelaw29.EngineAlone", spec := "engineAlone", inPlace := ["math/bits.Add64", "math/bits.Sub64"], unfollowed := true, recurses := true, named := ["math/bits.divideError", "math/bits.overflowError"], apart := false }
def EngineAloneSaid : Prop := engineAloneRow.holds Tryz.pinned (OpenSpec.ofChange engineAloneSpec)

/-- ITS FALSE NEIGHBOUR: 'it returns false'. Refute it at one input. -/
def engineAloneWrong : ChangeSpec := { name := "engineAlone", fn := fun _ => fun
  | [d1, d2] => { results := [.lit (.bool false)], args := [d1, d2] }
  | _ => none }
def EngineAloneWrongFalsely : Prop := engineAloneRow.holds Tryz.pinned (OpenSpec.ofChange engineAloneWrong)

/- THE SECOND FORM. 'bulk': how many values and letters a reading holds, each counted each time it is reached (what is shared counts as often as it is met; a slice's spare places count too). A statement '..UptoSaid' is the law's where the arguments, and the package variables that the reading takes, are together of bulk at most 1048576: NARROWER than '..Said'. Prove '..Said' where nothing that the law and all that it calls make is longer than what came in: it says more and counts as full. Else prove '..UptoSaid'. A law counts once. -/
mutual
def uptoBulk {H : Type} : DataW H → Nat
  | .lit (.string bytes) => bytes.length + 1
  | .lit _ => 1
  | .nil => 1
  | .ptr d => uptoBulk d + 1
  | .slice elems spare => uptoBulkAll elems + uptoBulkAll spare + 1
  | .agg parts => uptoBulkAll parts + 1
  | .iface _ d => uptoBulk d + 1
  | .map entries => uptoBulkEntries entries + 1
  | .held _ => 1
def uptoBulkAll {H : Type} : List (DataW H) → Nat
  | [] => 0
  | d :: r => uptoBulk d + uptoBulkAll r
def uptoBulkEntries {H : Type} : List (Lit × DataW H) → Nat
  | [] => 0
  | x :: r => uptoBulkEntry x + uptoBulkEntries r
def uptoBulkEntry {H : Type} : Lit × DataW H → Nat
  | (.string bytes, d) => bytes.length + uptoBulk d + 1
  | (_, d) => uptoBulk d + 1
 end
def uptoSmall : (H : Type) → List (DataW H) → Bool := fun _ ds => decide (uptoBulkAll ds ≤ 1048576)
def OpenSpec.upto (s : _root_.Go.ChangeSpec) : _root_.Go.OpenSpec := { _root_.Go.OpenSpec.ofChange s with cond := some uptoSmall }

/-- 'windowpanetop.TopRefused', WHERE WHAT IT READS IS OF BULK AT MOST 1048576: true; the input reads as it did. -/
def topRefusedUptoRow : OpenClaim := { program := "ytkakobhohikfkaagreat", sum := "f61725f4fc9da744ce2b49cad212698a3a76a73098de8eb6b554c3ae2be05ed0", func := "windowpane/windowpanetop.TopRefused", spec := "topRefused", inPlace := ["math/bits.Add64", "math/bits.Sub64"], unfollowed := true, recurses := true, named := ["math/bits.divideError", "math/bits.overflowError"], apart := false, narrowed := true }
def TopRefusedUptoSaid : Prop := topRefusedUptoRow.holds Tryz.pinned (OpenSpec.upto topRefusedSpec)

/-- 'windowpanetop.TopRecords', WHERE WHAT IT READS IS OF BULK AT MOST 1048576: true; the input reads as it did. -/
def topRecordsUptoRow : OpenClaim := { program := "ytkakobhohikfkaagreat", sum := "f61725f4fc9da744ce2b49cad212698a3a76a73098de8eb6b554c3ae2be05ed0", func := "windowpane/windowpanetop.TopRecords", spec := "topRecords", inPlace := ["math/bits.Add64", "math/bits.Sub64"], unfollowed := true, recurses := true, named := ["math/bits.divideError", "math/bits.overflowError"], apart := false, narrowed := true }
def TopRecordsUptoSaid : Prop := topRecordsUptoRow.holds Tryz.pinned (OpenSpec.upto topRecordsSpec)

/-- 'windowpanetop.TopCoded', WHERE WHAT IT READS IS OF BULK AT MOST 1048576: true; the input reads as it did. -/
def topCodedUptoRow : OpenClaim := { program := "ytkakobhohikfkaagreat", sum := "f61725f4fc9da744ce2b49cad212698a3a76a73098de8eb6b554c3ae2be05ed0", func := "windowpane/windowpanetop.TopCoded", spec := "topCoded", inPlace := ["math/bits.Add64", "math/bits.Sub64"], unfollowed := true, recurses := true, named := ["math/bits.divideError", "math/bits.overflowError"], apart := false, narrowed := true }
def TopCodedUptoSaid : Prop := topCodedUptoRow.holds Tryz.pinned (OpenSpec.upto topCodedSpec)

/-- 'windowpanelaw29.EngineRefuses', WHERE WHAT IT READS IS OF BULK AT MOST 1048576: true; the input reads as it did. -/
def engineRefusesUptoRow : OpenClaim := { program := "ytkakobhohikfkaagreat", sum := "f61725f4fc9da744ce2b49cad212698a3a76a73098de8eb6b554c3ae2be05ed0", func := "windowpane/windowpanelaw29.EngineRefuses", spec := "engineRefuses", inPlace := ["math/bits.Add64", "math/bits.Sub64"], unfollowed := true, recurses := true, named := ["math/bits.divideError", "math/bits.overflowError"], apart := false, narrowed := true }
def EngineRefusesUptoSaid : Prop := engineRefusesUptoRow.holds Tryz.pinned (OpenSpec.upto engineRefusesSpec)

/-- 'windowpanelaw29.EngineBatches', WHERE WHAT IT READS IS OF BULK AT MOST 1048576: true; the input reads as it did. -/
def engineBatchesUptoRow : OpenClaim := { program := "ytkakobhohikfkaagreat", sum := "f61725f4fc9da744ce2b49cad212698a3a76a73098de8eb6b554c3ae2be05ed0", func := "windowpane/windowpanelaw29.EngineBatches", spec := "engineBatches", inPlace := ["math/bits.Add64", "math/bits.Sub64"], unfollowed := true, recurses := true, named := ["math/bits.divideError", "math/bits.overflowError"], apart := false, narrowed := true }
def EngineBatchesUptoSaid : Prop := engineBatchesUptoRow.holds Tryz.pinned (OpenSpec.upto engineBatchesSpec)

/-- 'windowpanelaw29.EngineAlone', WHERE WHAT IT READS IS OF BULK AT MOST 1048576: true; the input reads as it did. -/
def engineAloneUptoRow : OpenClaim := { program := "ytkakobhohikfkaagreat", sum := "f61725f4fc9da744ce2b49cad212698a3a76a73098de8eb6b554c3ae2be05ed0", func := "windowpane/windowpanelaw29.EngineAlone", spec := "engineAlone", inPlace := ["math/bits.Add64", "math/bits.Sub64"], unfollowed := true, recurses := true, named := ["math/bits.divideError", "math/bits.overflowError"], apart := false, narrowed := true }
def EngineAloneUptoSaid : Prop := engineAloneUptoRow.holds Tryz.pinned (OpenSpec.upto engineAloneSpec)

end Rows
end Go.Proofs.YtkakobhohikfkaaGreat
