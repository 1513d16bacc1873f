/-
  No cell of these rows narrows 'for every input' (looked for: loops, veiled, ifaces, maps, wideKeys, modest, calm, conditions, laid).
  DERIVED. THE GIVEN ROWS OF THIS SEAT. 9 by the template 'for every input the law returns true; each argument reads behind the call as it read before'; 0 by the template 'total and deterministic' (their statements: YtpclnmpmammlfaaTotals.lean).
  GIVEN WITH THE SEED: the statements are not yours to turn. If you find one false, say at which input.
  Laid BY PROGRAM, IN A SANDBOX (cutbox-rows.mjs): the forced cells as the released guide's own fill.sh prints them over the translation 9469497191017bf5… (all of the seat's roots in one cut). By AI agents, Wed Nov 11 2026. No macro, syntax, notation, axiom, sorry.
-/
import Derived.Test.YtpclnmpmammlfaaChecked
import GoSem.Claim
import GoSem.ClaimJoined
import GoSem.ClaimMapViews
import Derived.JoinedTies
import Derived.KernelRfl
namespace Go.Proofs.Ytpclnmpmammlfaa
/- THE CELL 'sum', in the pinned program and in every row, IS THE sha256 OF THE DUMP (.gsa) THAT YtpclnmpmammlfaaProg.lean LOADS. Nothing in Lean hashes anything: it is a label: what it is worth is what the hold of that sum in a sandbox is worth. -/
noncomputable def Try.pinned : Pinned := { name := "ytpclnmpmammlfaa", sum := "9469497191017bf5a463a68e7d76cc0e9c0c5b7989d6f21bfeb046fa4abd4288", checked := Try.checked }
namespace Rows
def none {H : Type} : Left H := { results := [], args := [] }

/-- 'windowpanelaw21.RankOf': WHATEVER THE INPUT: true; the input reads as it did. -/
def rankOfSpec : ChangeSpec := { name := "rankOf", fn := fun _ => fun
  | [d] => { results := [.lit (.bool true)], args := [d] }
  | _ => none }
def rankOfRow : OpenClaim := { program := "ytpclnmpmammlfaa", sum := "9469497191017bf5a463a68e7d76cc0e9c0c5b7989d6f21bfeb046fa4abd4288", func := "windowpane/windowpanelaw21.RankOf", spec := "rankOf", recurses := true, apart := false }
def RankOfSaid : Prop := rankOfRow.holds Try.pinned (OpenSpec.ofChange rankOfSpec)

/-- ITS FALSE NEIGHBOUR: 'it returns false'. Refute it at one input. -/
def rankOfWrong : ChangeSpec := { name := "rankOf", fn := fun _ => fun
  | [d] => { results := [.lit (.bool false)], args := [d] }
  | _ => none }
def RankOfWrongFalsely : Prop := rankOfRow.holds Try.pinned (OpenSpec.ofChange rankOfWrong)

/-- 'windowpanelaw21.RankValidate': WHATEVER THE INPUT: true; the input reads as it did. -/
def rankValidateSpec : ChangeSpec := { name := "rankValidate", fn := fun _ => fun
  | [d] => { results := [.lit (.bool true)], args := [d] }
  | _ => none }
def rankValidateRow : OpenClaim := { program := "ytpclnmpmammlfaa", sum := "9469497191017bf5a463a68e7d76cc0e9c0c5b7989d6f21bfeb046fa4abd4288", func := "windowpane/windowpanelaw21.RankValidate", spec := "rankValidate", recurses := true, apart := false }
def RankValidateSaid : Prop := rankValidateRow.holds Try.pinned (OpenSpec.ofChange rankValidateSpec)

/-- ITS FALSE NEIGHBOUR: 'it returns false'. Refute it at one input. -/
def rankValidateWrong : ChangeSpec := { name := "rankValidate", fn := fun _ => fun
  | [d] => { results := [.lit (.bool false)], args := [d] }
  | _ => none }
def RankValidateWrongFalsely : Prop := rankValidateRow.holds Try.pinned (OpenSpec.ofChange rankValidateWrong)

/-- 'windowpanelaw21.RankNear': WHATEVER THE INPUT: true; the input reads as it did. -/
def rankNearSpec : ChangeSpec := { name := "rankNear", fn := fun _ => fun
  | [d1, d2] => { results := [.lit (.bool true)], args := [d1, d2] }
  | _ => none }
def rankNearRow : OpenClaim := { program := "ytpclnmpmammlfaa", sum := "9469497191017bf5a463a68e7d76cc0e9c0c5b7989d6f21bfeb046fa4abd4288", func := "windowpane/windowpanelaw21.RankNear", spec := "rankNear", recurses := true, apart := false }
def RankNearSaid : Prop := rankNearRow.holds Try.pinned (OpenSpec.ofChange rankNearSpec)

/-- ITS FALSE NEIGHBOUR: 'it returns false'. Refute it at one input. -/
def rankNearWrong : ChangeSpec := { name := "rankNear", fn := fun _ => fun
  | [d1, d2] => { results := [.lit (.bool false)], args := [d1, d2] }
  | _ => none }
def RankNearWrongFalsely : Prop := rankNearRow.holds Try.pinned (OpenSpec.ofChange rankNearWrong)

/-- 'windowpanelaw21.RankPrunes': WHATEVER THE INPUT: true; the input reads as it did. -/
def rankPrunesSpec : ChangeSpec := { name := "rankPrunes", fn := fun _ => fun
  | [d1, d2] => { results := [.lit (.bool true)], args := [d1, d2] }
  | _ => none }
def rankPrunesRow : OpenClaim := { program := "ytpclnmpmammlfaa", sum := "9469497191017bf5a463a68e7d76cc0e9c0c5b7989d6f21bfeb046fa4abd4288", func := "windowpane/windowpanelaw21.RankPrunes", spec := "rankPrunes", recurses := true, apart := false }
def RankPrunesSaid : Prop := rankPrunesRow.holds Try.pinned (OpenSpec.ofChange rankPrunesSpec)

/-- ITS FALSE NEIGHBOUR: 'it returns false'. Refute it at one input. -/
def rankPrunesWrong : ChangeSpec := { name := "rankPrunes", fn := fun _ => fun
  | [d1, d2] => { results := [.lit (.bool false)], args := [d1, d2] }
  | _ => none }
def RankPrunesWrongFalsely : Prop := rankPrunesRow.holds Try.pinned (OpenSpec.ofChange rankPrunesWrong)

/-- 'windowpanelaw21.RankMerges': WHATEVER THE INPUT: true; the input reads as it did. -/
def rankMergesSpec : ChangeSpec := { name := "rankMerges", fn := fun _ => fun
  | [d1, d2] => { results := [.lit (.bool true)], args := [d1, d2] }
  | _ => none }
def rankMergesRow : OpenClaim := { program := "ytpclnmpmammlfaa", sum := "9469497191017bf5a463a68e7d76cc0e9c0c5b7989d6f21bfeb046fa4abd4288", func := "windowpane/windowpanelaw21.RankMerges", spec := "rankMerges", recurses := true, apart := false }
def RankMergesSaid : Prop := rankMergesRow.holds Try.pinned (OpenSpec.ofChange rankMergesSpec)

/-- ITS FALSE NEIGHBOUR: 'it returns false'. Refute it at one input. -/
def rankMergesWrong : ChangeSpec := { name := "rankMerges", fn := fun _ => fun
  | [d1, d2] => { results := [.lit (.bool false)], args := [d1, d2] }
  | _ => none }
def RankMergesWrongFalsely : Prop := rankMergesRow.holds Try.pinned (OpenSpec.ofChange rankMergesWrong)

/-- 'windowpanelaw21.RankTruth': WHATEVER THE INPUT: true; the input reads as it did. -/
def rankTruthSpec : ChangeSpec := { name := "rankTruth", fn := fun _ => fun
  | [d1, d2, d3] => { results := [.lit (.bool true)], args := [d1, d2, d3] }
  | _ => none }
def rankTruthRow : OpenClaim := { program := "ytpclnmpmammlfaa", sum := "9469497191017bf5a463a68e7d76cc0e9c0c5b7989d6f21bfeb046fa4abd4288", func := "windowpane/windowpanelaw21.RankTruth", spec := "rankTruth", recurses := true, apart := false }
def RankTruthSaid : Prop := rankTruthRow.holds Try.pinned (OpenSpec.ofChange rankTruthSpec)

/-- ITS FALSE NEIGHBOUR: 'it returns false'. Refute it at one input. -/
def rankTruthWrong : ChangeSpec := { name := "rankTruth", fn := fun _ => fun
  | [d1, d2, d3] => { results := [.lit (.bool false)], args := [d1, d2, d3] }
  | _ => none }
def RankTruthWrongFalsely : Prop := rankTruthRow.holds Try.pinned (OpenSpec.ofChange rankTruthWrong)

/-- 'windowpanelaw08.ExactRanks': WHATEVER THE INPUT: true; the input reads as it did. -/
def exactRanksSpec : ChangeSpec := { name := "exactRanks", fn := fun _ => fun
  | [d1, d2, d3, d4] => { results := [.lit (.bool true)], args := [d1, d2, d3, d4] }
  | _ => none }
def exactRanksRow : OpenClaim := { program := "ytpclnmpmammlfaa", sum := "9469497191017bf5a463a68e7d76cc0e9c0c5b7989d6f21bfeb046fa4abd4288", func := "windowpane/windowpanelaw08.ExactRanks", spec := "exactRanks", inPlace := ["math/bits.Sub64"], recurses := true, apart := false }
def ExactRanksSaid : Prop := exactRanksRow.holds Try.pinned (OpenSpec.ofChange exactRanksSpec)

/-- ITS FALSE NEIGHBOUR: 'it returns false'. Refute it at one input. -/
def exactRanksWrong : ChangeSpec := { name := "exactRanks", fn := fun _ => fun
  | [d1, d2, d3, d4] => { results := [.lit (.bool false)], args := [d1, d2, d3, d4] }
  | _ => none }
def ExactRanksWrongFalsely : Prop := exactRanksRow.holds Try.pinned (OpenSpec.ofChange exactRanksWrong)

/-- 'windowpanelaw21.RankAsks': WHATEVER THE INPUT: true; the input reads as it did. -/
def rankAsksSpec : ChangeSpec := { name := "rankAsks", fn := fun _ => fun
  | [d1, d2, d3, d4, d5] => { results := [.lit (.bool true)], args := [d1, d2, d3, d4, d5] }
  | _ => none }
def rankAsksRow : OpenClaim := { program := "ytpclnmpmammlfaa", sum := "9469497191017bf5a463a68e7d76cc0e9c0c5b7989d6f21bfeb046fa4abd4288", func := "windowpane/windowpanelaw21.RankAsks", spec := "rankAsks", inPlace := ["math/bits.Sub64"], recurses := true, apart := false }
def RankAsksSaid : Prop := rankAsksRow.holds Try.pinned (OpenSpec.ofChange rankAsksSpec)

/-- ITS FALSE NEIGHBOUR: 'it returns false'. Refute it at one input. -/
def rankAsksWrong : ChangeSpec := { name := "rankAsks", fn := fun _ => fun
  | [d1, d2, d3, d4, d5] => { results := [.lit (.bool false)], args := [d1, d2, d3, d4, d5] }
  | _ => none }
def RankAsksWrongFalsely : Prop := rankAsksRow.holds Try.pinned (OpenSpec.ofChange rankAsksWrong)

/-- 'windowpanelaw09.RecentTruth': WHATEVER THE INPUT: true; the input reads as it did. -/
def recentTruthSpec : ChangeSpec := { name := "recentTruth", fn := fun _ => fun
  | [d1, d2, d3, d4, d5] => { results := [.lit (.bool true)], args := [d1, d2, d3, d4, d5] }
  | _ => none }
def recentTruthRow : OpenClaim := { program := "ytpclnmpmammlfaa", sum := "9469497191017bf5a463a68e7d76cc0e9c0c5b7989d6f21bfeb046fa4abd4288", func := "windowpane/windowpanelaw09.RecentTruth", spec := "recentTruth", inPlace := ["math/bits.Add64", "math/bits.Sub64"], recurses := true, named := ["math/bits.divideError", "math/bits.overflowError"], apart := false }
def RecentTruthSaid : Prop := recentTruthRow.holds Try.pinned (OpenSpec.ofChange recentTruthSpec)

/-- ITS FALSE NEIGHBOUR: 'it returns false'. Refute it at one input. -/
def recentTruthWrong : ChangeSpec := { name := "recentTruth", fn := fun _ => fun
  | [d1, d2, d3, d4, d5] => { results := [.lit (.bool false)], args := [d1, d2, d3, d4, d5] }
  | _ => none }
def RecentTruthWrongFalsely : Prop := recentTruthRow.holds Try.pinned (OpenSpec.ofChange recentTruthWrong)

/- THE SECOND FORM. 'bulk': how many values and letters a reading holds, each counted each time it is reached (what is shared counts as often as it is met; a slice's spare places count too). A statement '..UptoSaid' is the law's where the arguments, and the package variables that the reading takes, are together of bulk at most 1048576: NARROWER than '..Said'. Prove '..Said' where nothing that the law and all that it calls make is longer than what came in: it says more and counts as full. Else prove '..UptoSaid'. A law counts once. -/
mutual
def uptoBulk {H : Type} : DataW H → Nat
  | .lit (.string bytes) => bytes.length + 1
  | .lit _ => 1
  | .nil => 1
  | .ptr d => uptoBulk d + 1
  | .slice elems spare => uptoBulkAll elems + uptoBulkAll spare + 1
  | .agg parts => uptoBulkAll parts + 1
  | .iface _ d => uptoBulk d + 1
  | .map entries => uptoBulkEntries entries + 1
  | .held _ => 1
def uptoBulkAll {H : Type} : List (DataW H) → Nat
  | [] => 0
  | d :: r => uptoBulk d + uptoBulkAll r
def uptoBulkEntries {H : Type} : List (Lit × DataW H) → Nat
  | [] => 0
  | x :: r => uptoBulkEntry x + uptoBulkEntries r
def uptoBulkEntry {H : Type} : Lit × DataW H → Nat
  | (.string bytes, d) => bytes.length + uptoBulk d + 1
  | (_, d) => uptoBulk d + 1
 end
def uptoSmall : (H : Type) → List (DataW H) → Bool := fun _ ds => decide (uptoBulkAll ds ≤ 1048576)
def OpenSpec.upto (s : _root_.Go.ChangeSpec) : _root_.Go.OpenSpec := { _root_.Go.OpenSpec.ofChange s with cond := some uptoSmall }

/-- 'windowpanelaw21.RankOf', WHERE WHAT IT READS IS OF BULK AT MOST 1048576: true; the input reads as it did. -/
def rankOfUptoRow : OpenClaim := { program := "ytpclnmpmammlfaa", sum := "9469497191017bf5a463a68e7d76cc0e9c0c5b7989d6f21bfeb046fa4abd4288", func := "windowpane/windowpanelaw21.RankOf", spec := "rankOf", recurses := true, apart := false, narrowed := true }
def RankOfUptoSaid : Prop := rankOfUptoRow.holds Try.pinned (OpenSpec.upto rankOfSpec)

/-- 'windowpanelaw21.RankValidate', WHERE WHAT IT READS IS OF BULK AT MOST 1048576: true; the input reads as it did. -/
def rankValidateUptoRow : OpenClaim := { program := "ytpclnmpmammlfaa", sum := "9469497191017bf5a463a68e7d76cc0e9c0c5b7989d6f21bfeb046fa4abd4288", func := "windowpane/windowpanelaw21.RankValidate", spec := "rankValidate", recurses := true, apart := false, narrowed := true }
def RankValidateUptoSaid : Prop := rankValidateUptoRow.holds Try.pinned (OpenSpec.upto rankValidateSpec)

/-- 'windowpanelaw21.RankNear', WHERE WHAT IT READS IS OF BULK AT MOST 1048576: true; the input reads as it did. -/
def rankNearUptoRow : OpenClaim := { program := "ytpclnmpmammlfaa", sum := "9469497191017bf5a463a68e7d76cc0e9c0c5b7989d6f21bfeb046fa4abd4288", func := "windowpane/windowpanelaw21.RankNear", spec := "rankNear", recurses := true, apart := false, narrowed := true }
def RankNearUptoSaid : Prop := rankNearUptoRow.holds Try.pinned (OpenSpec.upto rankNearSpec)

/-- 'windowpanelaw21.RankPrunes', WHERE WHAT IT READS IS OF BULK AT MOST 1048576: true; the input reads as it did. -/
def rankPrunesUptoRow : OpenClaim := { program := "ytpclnmpmammlfaa", sum := "9469497191017bf5a463a68e7d76cc0e9c0c5b7989d6f21bfeb046fa4abd4288", func := "windowpane/windowpanelaw21.RankPrunes", spec := "rankPrunes", recurses := true, apart := false, narrowed := true }
def RankPrunesUptoSaid : Prop := rankPrunesUptoRow.holds Try.pinned (OpenSpec.upto rankPrunesSpec)

/-- 'windowpanelaw21.RankMerges', WHERE WHAT IT READS IS OF BULK AT MOST 1048576: true; the input reads as it did. -/
def rankMergesUptoRow : OpenClaim := { program := "ytpclnmpmammlfaa", sum := "9469497191017bf5a463a68e7d76cc0e9c0c5b7989d6f21bfeb046fa4abd4288", func := "windowpane/windowpanelaw21.RankMerges", spec := "rankMerges", recurses := true, apart := false, narrowed := true }
def RankMergesUptoSaid : Prop := rankMergesUptoRow.holds Try.pinned (OpenSpec.upto rankMergesSpec)

/-- 'windowpanelaw21.RankTruth', WHERE WHAT IT READS IS OF BULK AT MOST 1048576: true; the input reads as it did. -/
def rankTruthUptoRow : OpenClaim := { program := "ytpclnmpmammlfaa", sum := "9469497191017bf5a463a68e7d76cc0e9c0c5b7989d6f21bfeb046fa4abd4288", func := "windowpane/windowpanelaw21.RankTruth", spec := "rankTruth", recurses := true, apart := false, narrowed := true }
def RankTruthUptoSaid : Prop := rankTruthUptoRow.holds Try.pinned (OpenSpec.upto rankTruthSpec)

/-- 'windowpanelaw08.ExactRanks', WHERE WHAT IT READS IS OF BULK AT MOST 1048576: true; the input reads as it did. -/
def exactRanksUptoRow : OpenClaim := { program := "ytpclnmpmammlfaa", sum := "9469497191017bf5a463a68e7d76cc0e9c0c5b7989d6f21bfeb046fa4abd4288", func := "windowpane/windowpanelaw08.ExactRanks", spec := "exactRanks", inPlace := ["math/bits.Sub64"], recurses := true, apart := false, narrowed := true }
def ExactRanksUptoSaid : Prop := exactRanksUptoRow.holds Try.pinned (OpenSpec.upto exactRanksSpec)

/-- 'windowpanelaw21.RankAsks', WHERE WHAT IT READS IS OF BULK AT MOST 1048576: true; the input reads as it did. -/
def rankAsksUptoRow : OpenClaim := { program := "ytpclnmpmammlfaa", sum := "9469497191017bf5a463a68e7d76cc0e9c0c5b7989d6f21bfeb046fa4abd4288", func := "windowpane/windowpanelaw21.RankAsks", spec := "rankAsks", inPlace := ["math/bits.Sub64"], recurses := true, apart := false, narrowed := true }
def RankAsksUptoSaid : Prop := rankAsksUptoRow.holds Try.pinned (OpenSpec.upto rankAsksSpec)

/-- 'windowpanelaw09.RecentTruth', WHERE WHAT IT READS IS OF BULK AT MOST 1048576: true; the input reads as it did. -/
def recentTruthUptoRow : OpenClaim := { program := "ytpclnmpmammlfaa", sum := "9469497191017bf5a463a68e7d76cc0e9c0c5b7989d6f21bfeb046fa4abd4288", func := "windowpane/windowpanelaw09.RecentTruth", spec := "recentTruth", inPlace := ["math/bits.Add64", "math/bits.Sub64"], recurses := true, named := ["math/bits.divideError", "math/bits.overflowError"], apart := false, narrowed := true }
def RecentTruthUptoSaid : Prop := recentTruthUptoRow.holds Try.pinned (OpenSpec.upto recentTruthSpec)

end Rows
end Go.Proofs.Ytpclnmpmammlfaa
