/-
  No cell of these rows narrows 'for every input' (looked for: loops, veiled, ifaces, maps, wideKeys, modest, calm, conditions, laid).
  DERIVED. THE GIVEN ROWS OF THIS SEAT. 11 by the template 'for every input the law returns true; each argument reads behind the call as it read before'; 0 by the template 'total and deterministic' (their statements: YtfnkbbeeilpiiaaTotals.lean).
  GIVEN WITH THE SEED: the statements are not yours to turn. If you find one false, say at which input.
  Laid BY PROGRAM, IN A SANDBOX (cutbox-rows.mjs): the forced cells as the released guide's own fill.sh prints them over the translation 13d6beecaeb78300… (all of the seat's roots in one cut). By AI agents, Wed Nov 11 2026. No macro, syntax, notation, axiom, sorry.
-/
import Derived.Test.YtfnkbbeeilpiiaaChecked
import GoSem.Claim
import GoSem.ClaimJoined
import GoSem.ClaimMapViews
import Derived.JoinedTies
import Derived.KernelRfl
namespace Go.Proofs.Ytfnkbbeeilpiiaa
/- THE CELL 'sum', in the pinned program and in every row, IS THE sha256 OF THE DUMP (.gsa) THAT YtfnkbbeeilpiiaaProg.lean LOADS. Nothing in Lean hashes anything: it is a label: what it is worth is what the hold of that sum in a sandbox is worth. -/
noncomputable def Try.pinned : Pinned := { name := "ytfnkbbeeilpiiaa", sum := "13d6beecaeb783003888de7ad9beb9e1f51d83cf064176ef70130194f1281ba2", checked := Try.checked }
namespace Rows
def none {H : Type} : Left H := { results := [], args := [] }

/-- 'windowpanelaw09.RecentNew': WHATEVER THE INPUT: true; the input reads as it did. -/
def recentNewSpec : ChangeSpec := { name := "recentNew", fn := fun _ => fun
  | [d1, d2, d3] => { results := [.lit (.bool true)], args := [d1, d2, d3] }
  | _ => none }
def recentNewRow : OpenClaim := { program := "ytfnkbbeeilpiiaa", sum := "13d6beecaeb783003888de7ad9beb9e1f51d83cf064176ef70130194f1281ba2", func := "windowpane/windowpanelaw09.RecentNew", spec := "recentNew", apart := false }
def RecentNewSaid : Prop := recentNewRow.holds Try.pinned (OpenSpec.ofChange recentNewSpec)

/-- ITS FALSE NEIGHBOUR: 'it returns false'. Refute it at one input. -/
def recentNewWrong : ChangeSpec := { name := "recentNew", fn := fun _ => fun
  | [d1, d2, d3] => { results := [.lit (.bool false)], args := [d1, d2, d3] }
  | _ => none }
def RecentNewWrongFalsely : Prop := recentNewRow.holds Try.pinned (OpenSpec.ofChange recentNewWrong)

/-- 'windowpanelaw08.ExactExtremes': WHATEVER THE INPUT: true; the input reads as it did. -/
def exactExtremesSpec : ChangeSpec := { name := "exactExtremes", fn := fun _ => fun
  | [d] => { results := [.lit (.bool true)], args := [d] }
  | _ => none }
def exactExtremesRow : OpenClaim := { program := "ytfnkbbeeilpiiaa", sum := "13d6beecaeb783003888de7ad9beb9e1f51d83cf064176ef70130194f1281ba2", func := "windowpane/windowpanelaw08.ExactExtremes", spec := "exactExtremes", apart := false }
def ExactExtremesSaid : Prop := exactExtremesRow.holds Try.pinned (OpenSpec.ofChange exactExtremesSpec)

/-- ITS FALSE NEIGHBOUR: 'it returns false'. Refute it at one input. -/
def exactExtremesWrong : ChangeSpec := { name := "exactExtremes", fn := fun _ => fun
  | [d] => { results := [.lit (.bool false)], args := [d] }
  | _ => none }
def ExactExtremesWrongFalsely : Prop := exactExtremesRow.holds Try.pinned (OpenSpec.ofChange exactExtremesWrong)

/-- 'windowpanelaw09.RecentStates': WHATEVER THE INPUT: true; the input reads as it did. -/
def recentStatesSpec : ChangeSpec := { name := "recentStates", fn := fun _ => fun
  | [d1, d2, d3] => { results := [.lit (.bool true)], args := [d1, d2, d3] }
  | _ => none }
def recentStatesRow : OpenClaim := { program := "ytfnkbbeeilpiiaa", sum := "13d6beecaeb783003888de7ad9beb9e1f51d83cf064176ef70130194f1281ba2", func := "windowpane/windowpanelaw09.RecentStates", spec := "recentStates", apart := false }
def RecentStatesSaid : Prop := recentStatesRow.holds Try.pinned (OpenSpec.ofChange recentStatesSpec)

/-- ITS FALSE NEIGHBOUR: 'it returns false'. Refute it at one input. -/
def recentStatesWrong : ChangeSpec := { name := "recentStates", fn := fun _ => fun
  | [d1, d2, d3] => { results := [.lit (.bool false)], args := [d1, d2, d3] }
  | _ => none }
def RecentStatesWrongFalsely : Prop := recentStatesRow.holds Try.pinned (OpenSpec.ofChange recentStatesWrong)

/-- 'windowpanelaw09.RecentRuns': WHATEVER THE INPUT: true; the input reads as it did. -/
def recentRunsSpec : ChangeSpec := { name := "recentRuns", fn := fun _ => fun
  | [d1, d2, d3] => { results := [.lit (.bool true)], args := [d1, d2, d3] }
  | _ => none }
def recentRunsRow : OpenClaim := { program := "ytfnkbbeeilpiiaa", sum := "13d6beecaeb783003888de7ad9beb9e1f51d83cf064176ef70130194f1281ba2", func := "windowpane/windowpanelaw09.RecentRuns", spec := "recentRuns", apart := false }
def RecentRunsSaid : Prop := recentRunsRow.holds Try.pinned (OpenSpec.ofChange recentRunsSpec)

/-- ITS FALSE NEIGHBOUR: 'it returns false'. Refute it at one input. -/
def recentRunsWrong : ChangeSpec := { name := "recentRuns", fn := fun _ => fun
  | [d1, d2, d3] => { results := [.lit (.bool false)], args := [d1, d2, d3] }
  | _ => none }
def RecentRunsWrongFalsely : Prop := recentRunsRow.holds Try.pinned (OpenSpec.ofChange recentRunsWrong)

/-- 'windowpanelaw08.ExactLive': WHATEVER THE INPUT: true; the input reads as it did. -/
def exactLiveSpec : ChangeSpec := { name := "exactLive", fn := fun _ => fun
  | [d1, d2, d3] => { results := [.lit (.bool true)], args := [d1, d2, d3] }
  | _ => none }
def exactLiveRow : OpenClaim := { program := "ytfnkbbeeilpiiaa", sum := "13d6beecaeb783003888de7ad9beb9e1f51d83cf064176ef70130194f1281ba2", func := "windowpane/windowpanelaw08.ExactLive", spec := "exactLive", apart := false }
def ExactLiveSaid : Prop := exactLiveRow.holds Try.pinned (OpenSpec.ofChange exactLiveSpec)

/-- ITS FALSE NEIGHBOUR: 'it returns false'. Refute it at one input. -/
def exactLiveWrong : ChangeSpec := { name := "exactLive", fn := fun _ => fun
  | [d1, d2, d3] => { results := [.lit (.bool false)], args := [d1, d2, d3] }
  | _ => none }
def ExactLiveWrongFalsely : Prop := exactLiveRow.holds Try.pinned (OpenSpec.ofChange exactLiveWrong)

/-- 'windowpanelaw18.ChainNew': WHATEVER THE INPUT: true; the input reads as it did. -/
def chainNewSpec : ChangeSpec := { name := "chainNew", fn := fun _ => fun
  | [d1, d2] => { results := [.lit (.bool true)], args := [d1, d2] }
  | _ => none }
def chainNewRow : OpenClaim := { program := "ytfnkbbeeilpiiaa", sum := "13d6beecaeb783003888de7ad9beb9e1f51d83cf064176ef70130194f1281ba2", func := "windowpane/windowpanelaw18.ChainNew", spec := "chainNew", apart := false }
def ChainNewSaid : Prop := chainNewRow.holds Try.pinned (OpenSpec.ofChange chainNewSpec)

/-- ITS FALSE NEIGHBOUR: 'it returns false'. Refute it at one input. -/
def chainNewWrong : ChangeSpec := { name := "chainNew", fn := fun _ => fun
  | [d1, d2] => { results := [.lit (.bool false)], args := [d1, d2] }
  | _ => none }
def ChainNewWrongFalsely : Prop := chainNewRow.holds Try.pinned (OpenSpec.ofChange chainNewWrong)

/-- 'windowpanelaw18.ChainStates': WHATEVER THE INPUT: true; the input reads as it did. -/
def chainStatesSpec : ChangeSpec := { name := "chainStates", fn := fun _ => fun
  | [d] => { results := [.lit (.bool true)], args := [d] }
  | _ => none }
def chainStatesRow : OpenClaim := { program := "ytfnkbbeeilpiiaa", sum := "13d6beecaeb783003888de7ad9beb9e1f51d83cf064176ef70130194f1281ba2", func := "windowpane/windowpanelaw18.ChainStates", spec := "chainStates", apart := false }
def ChainStatesSaid : Prop := chainStatesRow.holds Try.pinned (OpenSpec.ofChange chainStatesSpec)

/-- ITS FALSE NEIGHBOUR: 'it returns false'. Refute it at one input. -/
def chainStatesWrong : ChangeSpec := { name := "chainStates", fn := fun _ => fun
  | [d] => { results := [.lit (.bool false)], args := [d] }
  | _ => none }
def ChainStatesWrongFalsely : Prop := chainStatesRow.holds Try.pinned (OpenSpec.ofChange chainStatesWrong)

/-- 'windowpanelaw18.ChainWastes': WHATEVER THE INPUT: true; the input reads as it did. -/
def chainWastesSpec : ChangeSpec := { name := "chainWastes", fn := fun _ => fun
  | [d1, d2, d3, d4] => { results := [.lit (.bool true)], args := [d1, d2, d3, d4] }
  | _ => none }
def chainWastesRow : OpenClaim := { program := "ytfnkbbeeilpiiaa", sum := "13d6beecaeb783003888de7ad9beb9e1f51d83cf064176ef70130194f1281ba2", func := "windowpane/windowpanelaw18.ChainWastes", spec := "chainWastes", apart := false }
def ChainWastesSaid : Prop := chainWastesRow.holds Try.pinned (OpenSpec.ofChange chainWastesSpec)

/-- ITS FALSE NEIGHBOUR: 'it returns false'. Refute it at one input. -/
def chainWastesWrong : ChangeSpec := { name := "chainWastes", fn := fun _ => fun
  | [d1, d2, d3, d4] => { results := [.lit (.bool false)], args := [d1, d2, d3, d4] }
  | _ => none }
def ChainWastesWrongFalsely : Prop := chainWastesRow.holds Try.pinned (OpenSpec.ofChange chainWastesWrong)

/-- 'windowpanelaw18.ChainAdds': WHATEVER THE INPUT: true; the input reads as it did. -/
def chainAddsSpec : ChangeSpec := { name := "chainAdds", fn := fun _ => fun
  | [d1, d2, d3, d4] => { results := [.lit (.bool true)], args := [d1, d2, d3, d4] }
  | _ => none }
def chainAddsRow : OpenClaim := { program := "ytfnkbbeeilpiiaa", sum := "13d6beecaeb783003888de7ad9beb9e1f51d83cf064176ef70130194f1281ba2", func := "windowpane/windowpanelaw18.ChainAdds", spec := "chainAdds", apart := false }
def ChainAddsSaid : Prop := chainAddsRow.holds Try.pinned (OpenSpec.ofChange chainAddsSpec)

/-- ITS FALSE NEIGHBOUR: 'it returns false'. Refute it at one input. -/
def chainAddsWrong : ChangeSpec := { name := "chainAdds", fn := fun _ => fun
  | [d1, d2, d3, d4] => { results := [.lit (.bool false)], args := [d1, d2, d3, d4] }
  | _ => none }
def ChainAddsWrongFalsely : Prop := chainAddsRow.holds Try.pinned (OpenSpec.ofChange chainAddsWrong)

/-- 'windowpanelaw18.ChainLive': WHATEVER THE INPUT: true; the input reads as it did. -/
def chainLiveSpec : ChangeSpec := { name := "chainLive", fn := fun _ => fun
  | [d1, d2, d3] => { results := [.lit (.bool true)], args := [d1, d2, d3] }
  | _ => none }
def chainLiveRow : OpenClaim := { program := "ytfnkbbeeilpiiaa", sum := "13d6beecaeb783003888de7ad9beb9e1f51d83cf064176ef70130194f1281ba2", func := "windowpane/windowpanelaw18.ChainLive", spec := "chainLive", apart := false }
def ChainLiveSaid : Prop := chainLiveRow.holds Try.pinned (OpenSpec.ofChange chainLiveSpec)

/-- ITS FALSE NEIGHBOUR: 'it returns false'. Refute it at one input. -/
def chainLiveWrong : ChangeSpec := { name := "chainLive", fn := fun _ => fun
  | [d1, d2, d3] => { results := [.lit (.bool false)], args := [d1, d2, d3] }
  | _ => none }
def ChainLiveWrongFalsely : Prop := chainLiveRow.holds Try.pinned (OpenSpec.ofChange chainLiveWrong)

/-- 'windowpanelaw18.ChainUniform': WHATEVER THE INPUT: true; the input reads as it did. -/
def chainUniformSpec : ChangeSpec := { name := "chainUniform", fn := fun _ => fun
  | [d1, d2] => { results := [.lit (.bool true)], args := [d1, d2] }
  | _ => none }
def chainUniformRow : OpenClaim := { program := "ytfnkbbeeilpiiaa", sum := "13d6beecaeb783003888de7ad9beb9e1f51d83cf064176ef70130194f1281ba2", func := "windowpane/windowpanelaw18.ChainUniform", spec := "chainUniform", apart := false }
def ChainUniformSaid : Prop := chainUniformRow.holds Try.pinned (OpenSpec.ofChange chainUniformSpec)

/-- ITS FALSE NEIGHBOUR: 'it returns false'. Refute it at one input. -/
def chainUniformWrong : ChangeSpec := { name := "chainUniform", fn := fun _ => fun
  | [d1, d2] => { results := [.lit (.bool false)], args := [d1, d2] }
  | _ => none }
def ChainUniformWrongFalsely : Prop := chainUniformRow.holds Try.pinned (OpenSpec.ofChange chainUniformWrong)

/- THE SECOND FORM. 'bulk': how many values and letters a reading holds, each counted each time it is reached (what is shared counts as often as it is met; a slice's spare places count too). A statement '..UptoSaid' is the law's where the arguments, and the package variables that the reading takes, are together of bulk at most 1048576: NARROWER than '..Said'. Prove '..Said' where nothing that the law and all that it calls make is longer than what came in: it says more and counts as full. Else prove '..UptoSaid'. A law counts once. -/
mutual
def uptoBulk {H : Type} : DataW H → Nat
  | .lit (.string bytes) => bytes.length + 1
  | .lit _ => 1
  | .nil => 1
  | .ptr d => uptoBulk d + 1
  | .slice elems spare => uptoBulkAll elems + uptoBulkAll spare + 1
  | .agg parts => uptoBulkAll parts + 1
  | .iface _ d => uptoBulk d + 1
  | .map entries => uptoBulkEntries entries + 1
  | .held _ => 1
def uptoBulkAll {H : Type} : List (DataW H) → Nat
  | [] => 0
  | d :: r => uptoBulk d + uptoBulkAll r
def uptoBulkEntries {H : Type} : List (Lit × DataW H) → Nat
  | [] => 0
  | x :: r => uptoBulkEntry x + uptoBulkEntries r
def uptoBulkEntry {H : Type} : Lit × DataW H → Nat
  | (.string bytes, d) => bytes.length + uptoBulk d + 1
  | (_, d) => uptoBulk d + 1
 end
def uptoSmall : (H : Type) → List (DataW H) → Bool := fun _ ds => decide (uptoBulkAll ds ≤ 1048576)
def OpenSpec.upto (s : _root_.Go.ChangeSpec) : _root_.Go.OpenSpec := { _root_.Go.OpenSpec.ofChange s with cond := some uptoSmall }

/-- 'windowpanelaw09.RecentNew', WHERE WHAT IT READS IS OF BULK AT MOST 1048576: true; the input reads as it did. -/
def recentNewUptoRow : OpenClaim := { program := "ytfnkbbeeilpiiaa", sum := "13d6beecaeb783003888de7ad9beb9e1f51d83cf064176ef70130194f1281ba2", func := "windowpane/windowpanelaw09.RecentNew", spec := "recentNew", apart := false, narrowed := true }
def RecentNewUptoSaid : Prop := recentNewUptoRow.holds Try.pinned (OpenSpec.upto recentNewSpec)

/-- 'windowpanelaw08.ExactExtremes', WHERE WHAT IT READS IS OF BULK AT MOST 1048576: true; the input reads as it did. -/
def exactExtremesUptoRow : OpenClaim := { program := "ytfnkbbeeilpiiaa", sum := "13d6beecaeb783003888de7ad9beb9e1f51d83cf064176ef70130194f1281ba2", func := "windowpane/windowpanelaw08.ExactExtremes", spec := "exactExtremes", apart := false, narrowed := true }
def ExactExtremesUptoSaid : Prop := exactExtremesUptoRow.holds Try.pinned (OpenSpec.upto exactExtremesSpec)

/-- 'windowpanelaw09.RecentStates', WHERE WHAT IT READS IS OF BULK AT MOST 1048576: true; the input reads as it did. -/
def recentStatesUptoRow : OpenClaim := { program := "ytfnkbbeeilpiiaa", sum := "13d6beecaeb783003888de7ad9beb9e1f51d83cf064176ef70130194f1281ba2", func := "windowpane/windowpanelaw09.RecentStates", spec := "recentStates", apart := false, narrowed := true }
def RecentStatesUptoSaid : Prop := recentStatesUptoRow.holds Try.pinned (OpenSpec.upto recentStatesSpec)

/-- 'windowpanelaw09.RecentRuns', WHERE WHAT IT READS IS OF BULK AT MOST 1048576: true; the input reads as it did. -/
def recentRunsUptoRow : OpenClaim := { program := "ytfnkbbeeilpiiaa", sum := "13d6beecaeb783003888de7ad9beb9e1f51d83cf064176ef70130194f1281ba2", func := "windowpane/windowpanelaw09.RecentRuns", spec := "recentRuns", apart := false, narrowed := true }
def RecentRunsUptoSaid : Prop := recentRunsUptoRow.holds Try.pinned (OpenSpec.upto recentRunsSpec)

/-- 'windowpanelaw08.ExactLive', WHERE WHAT IT READS IS OF BULK AT MOST 1048576: true; the input reads as it did. -/
def exactLiveUptoRow : OpenClaim := { program := "ytfnkbbeeilpiiaa", sum := "13d6beecaeb783003888de7ad9beb9e1f51d83cf064176ef70130194f1281ba2", func := "windowpane/windowpanelaw08.ExactLive", spec := "exactLive", apart := false, narrowed := true }
def ExactLiveUptoSaid : Prop := exactLiveUptoRow.holds Try.pinned (OpenSpec.upto exactLiveSpec)

/-- 'windowpanelaw18.ChainNew', WHERE WHAT IT READS IS OF BULK AT MOST 1048576: true; the input reads as it did. -/
def chainNewUptoRow : OpenClaim := { program := "ytfnkbbeeilpiiaa", sum := "13d6beecaeb783003888de7ad9beb9e1f51d83cf064176ef70130194f1281ba2", func := "windowpane/windowpanelaw18.ChainNew", spec := "chainNew", apart := false, narrowed := true }
def ChainNewUptoSaid : Prop := chainNewUptoRow.holds Try.pinned (OpenSpec.upto chainNewSpec)

/-- 'windowpanelaw18.ChainStates', WHERE WHAT IT READS IS OF BULK AT MOST 1048576: true; the input reads as it did. -/
def chainStatesUptoRow : OpenClaim := { program := "ytfnkbbeeilpiiaa", sum := "13d6beecaeb783003888de7ad9beb9e1f51d83cf064176ef70130194f1281ba2", func := "windowpane/windowpanelaw18.ChainStates", spec := "chainStates", apart := false, narrowed := true }
def ChainStatesUptoSaid : Prop := chainStatesUptoRow.holds Try.pinned (OpenSpec.upto chainStatesSpec)

/-- 'windowpanelaw18.ChainWastes', WHERE WHAT IT READS IS OF BULK AT MOST 1048576: true; the input reads as it did. -/
def chainWastesUptoRow : OpenClaim := { program := "ytfnkbbeeilpiiaa", sum := "13d6beecaeb783003888de7ad9beb9e1f51d83cf064176ef70130194f1281ba2", func := "windowpane/windowpanelaw18.ChainWastes", spec := "chainWastes", apart := false, narrowed := true }
def ChainWastesUptoSaid : Prop := chainWastesUptoRow.holds Try.pinned (OpenSpec.upto chainWastesSpec)

/-- 'windowpanelaw18.ChainAdds', WHERE WHAT IT READS IS OF BULK AT MOST 1048576: true; the input reads as it did. -/
def chainAddsUptoRow : OpenClaim := { program := "ytfnkbbeeilpiiaa", sum := "13d6beecaeb783003888de7ad9beb9e1f51d83cf064176ef70130194f1281ba2", func := "windowpane/windowpanelaw18.ChainAdds", spec := "chainAdds", apart := false, narrowed := true }
def ChainAddsUptoSaid : Prop := chainAddsUptoRow.holds Try.pinned (OpenSpec.upto chainAddsSpec)

/-- 'windowpanelaw18.ChainLive', WHERE WHAT IT READS IS OF BULK AT MOST 1048576: true; the input reads as it did. -/
def chainLiveUptoRow : OpenClaim := { program := "ytfnkbbeeilpiiaa", sum := "13d6beecaeb783003888de7ad9beb9e1f51d83cf064176ef70130194f1281ba2", func := "windowpane/windowpanelaw18.ChainLive", spec := "chainLive", apart := false, narrowed := true }
def ChainLiveUptoSaid : Prop := chainLiveUptoRow.holds Try.pinned (OpenSpec.upto chainLiveSpec)

/-- 'windowpanelaw18.ChainUniform', WHERE WHAT IT READS IS OF BULK AT MOST 1048576: true; the input reads as it did. -/
def chainUniformUptoRow : OpenClaim := { program := "ytfnkbbeeilpiiaa", sum := "13d6beecaeb783003888de7ad9beb9e1f51d83cf064176ef70130194f1281ba2", func := "windowpane/windowpanelaw18.ChainUniform", spec := "chainUniform", apart := false, narrowed := true }
def ChainUniformUptoSaid : Prop := chainUniformUptoRow.holds Try.pinned (OpenSpec.upto chainUniformSpec)

end Rows
end Go.Proofs.Ytfnkbbeeilpiiaa
