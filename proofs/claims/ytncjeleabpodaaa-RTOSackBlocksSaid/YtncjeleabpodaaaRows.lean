/-
  No cell of these rows narrows 'for every input' (looked for: loops, veiled, ifaces, maps, wideKeys, modest, calm, conditions, laid).
  DERIVED. THE GIVEN ROWS OF THIS SEAT. 8 by the template 'for every input the law returns true; each argument reads behind the call as it read before'; 0 by the template 'total and deterministic' (their statements: YtncjeleabpodaaaTotals.lean).
  GIVEN WITH THE SEED: the statements are not yours to turn. If you find one false, say at which input.
  Laid BY PROGRAM, IN A SANDBOX (cutbox-rows.mjs): the forced cells as the released guide's own fill.sh prints them over the translation c7c748bda5623a9b… (all of the seat's roots in one cut). By AI agents, Wed Nov 11 2026. No macro, syntax, notation, axiom, sorry.
-/
import Derived.Test.YtncjeleabpodaaaChecked
import GoSem.Claim
import GoSem.ClaimJoined
import GoSem.ClaimMapViews
import Derived.JoinedTies
import Derived.KernelRfl
namespace Go.Proofs.Ytncjeleabpodaaa
/- THE CELL 'sum', in the pinned program and in every row, IS THE sha256 OF THE DUMP (.gsa) THAT YtncjeleabpodaaaProg.lean LOADS. Nothing in Lean hashes anything: it is a label: what it is worth is what the hold of that sum in a sandbox is worth. -/
noncomputable def Try.pinned : Pinned := { name := "ytncjeleabpodaaa", sum := "c7c748bda5623a9b0a8b5f5edb550cd22e868a32f202c48c19285dd62dead83e", checked := Try.checked }
namespace Rows
def none {H : Type} : Left H := { results := [], args := [] }

/-- 'stagepostlaw15.RTOFromSegments': WHATEVER THE INPUT: true; the input reads as it did. -/
def rTOFromSegmentsSpec : ChangeSpec := { name := "rTOFromSegments", fn := fun _ => fun
  | [d1, d2] => { results := [.lit (.bool true)], args := [d1, d2] }
  | _ => none }
def rTOFromSegmentsRow : OpenClaim := { program := "ytncjeleabpodaaa", sum := "c7c748bda5623a9b0a8b5f5edb550cd22e868a32f202c48c19285dd62dead83e", func := "stagepost/stagepostlaw15.RTOFromSegments", spec := "rTOFromSegments", inPlace := ["internal/abi.NoEscape"], unfollowed := true, recurses := true, apart := false }
def RTOFromSegmentsSaid : Prop := rTOFromSegmentsRow.holds Try.pinned (OpenSpec.ofChange rTOFromSegmentsSpec)

/-- ITS FALSE NEIGHBOUR: 'it returns false'. Refute it at one input. -/
def rTOFromSegmentsWrong : ChangeSpec := { name := "rTOFromSegments", fn := fun _ => fun
  | [d1, d2] => { results := [.lit (.bool false)], args := [d1, d2] }
  | _ => none }
def RTOFromSegmentsWrongFalsely : Prop := rTOFromSegmentsRow.holds Try.pinned (OpenSpec.ofChange rTOFromSegmentsWrong)

/-- 'stagepostlaw14.ScoreboardPartition': WHATEVER THE INPUT: true; the input reads as it did. -/
def scoreboardPartitionSpec : ChangeSpec := { name := "scoreboardPartition", fn := fun _ => fun
  | [d1, d2] => { results := [.lit (.bool true)], args := [d1, d2] }
  | _ => none }
def scoreboardPartitionRow : OpenClaim := { program := "ytncjeleabpodaaa", sum := "c7c748bda5623a9b0a8b5f5edb550cd22e868a32f202c48c19285dd62dead83e", func := "stagepost/stagepostlaw14.ScoreboardPartition", spec := "scoreboardPartition", unfollowed := true, recurses := true, apart := false }
def ScoreboardPartitionSaid : Prop := scoreboardPartitionRow.holds Try.pinned (OpenSpec.ofChange scoreboardPartitionSpec)

/-- ITS FALSE NEIGHBOUR: 'it returns false'. Refute it at one input. -/
def scoreboardPartitionWrong : ChangeSpec := { name := "scoreboardPartition", fn := fun _ => fun
  | [d1, d2] => { results := [.lit (.bool false)], args := [d1, d2] }
  | _ => none }
def ScoreboardPartitionWrongFalsely : Prop := scoreboardPartitionRow.holds Try.pinned (OpenSpec.ofChange scoreboardPartitionWrong)

/-- 'stagepostlaw14.ScoreboardRetransmitsOnce': WHATEVER THE INPUT: true; the input reads as it did. -/
def scoreboardRetransmitsOnceSpec : ChangeSpec := { name := "scoreboardRetransmitsOnce", fn := fun _ => fun
  | [d1, d2] => { results := [.lit (.bool true)], args := [d1, d2] }
  | _ => none }
def scoreboardRetransmitsOnceRow : OpenClaim := { program := "ytncjeleabpodaaa", sum := "c7c748bda5623a9b0a8b5f5edb550cd22e868a32f202c48c19285dd62dead83e", func := "stagepost/stagepostlaw14.ScoreboardRetransmitsOnce", spec := "scoreboardRetransmitsOnce", unfollowed := true, recurses := true, apart := false }
def ScoreboardRetransmitsOnceSaid : Prop := scoreboardRetransmitsOnceRow.holds Try.pinned (OpenSpec.ofChange scoreboardRetransmitsOnceSpec)

/-- ITS FALSE NEIGHBOUR: 'it returns false'. Refute it at one input. -/
def scoreboardRetransmitsOnceWrong : ChangeSpec := { name := "scoreboardRetransmitsOnce", fn := fun _ => fun
  | [d1, d2] => { results := [.lit (.bool false)], args := [d1, d2] }
  | _ => none }
def ScoreboardRetransmitsOnceWrongFalsely : Prop := scoreboardRetransmitsOnceRow.holds Try.pinned (OpenSpec.ofChange scoreboardRetransmitsOnceWrong)

/-- 'stagepostlaw14.ScoreboardDrains': WHATEVER THE INPUT: true; the input reads as it did. -/
def scoreboardDrainsSpec : ChangeSpec := { name := "scoreboardDrains", fn := fun _ => fun
  | [d1, d2, d3] => { results := [.lit (.bool true)], args := [d1, d2, d3] }
  | _ => none }
def scoreboardDrainsRow : OpenClaim := { program := "ytncjeleabpodaaa", sum := "c7c748bda5623a9b0a8b5f5edb550cd22e868a32f202c48c19285dd62dead83e", func := "stagepost/stagepostlaw14.ScoreboardDrains", spec := "scoreboardDrains", unfollowed := true, recurses := true, apart := false }
def ScoreboardDrainsSaid : Prop := scoreboardDrainsRow.holds Try.pinned (OpenSpec.ofChange scoreboardDrainsSpec)

/-- ITS FALSE NEIGHBOUR: 'it returns false'. Refute it at one input. -/
def scoreboardDrainsWrong : ChangeSpec := { name := "scoreboardDrains", fn := fun _ => fun
  | [d1, d2, d3] => { results := [.lit (.bool false)], args := [d1, d2, d3] }
  | _ => none }
def ScoreboardDrainsWrongFalsely : Prop := scoreboardDrainsRow.holds Try.pinned (OpenSpec.ofChange scoreboardDrainsWrong)

/-- 'stagepostlaw14.ScoreboardAfterTimeout': WHATEVER THE INPUT: true; the input reads as it did. -/
def scoreboardAfterTimeoutSpec : ChangeSpec := { name := "scoreboardAfterTimeout", fn := fun _ => fun
  | [d1, d2, d3, d4] => { results := [.lit (.bool true)], args := [d1, d2, d3, d4] }
  | _ => none }
def scoreboardAfterTimeoutRow : OpenClaim := { program := "ytncjeleabpodaaa", sum := "c7c748bda5623a9b0a8b5f5edb550cd22e868a32f202c48c19285dd62dead83e", func := "stagepost/stagepostlaw14.ScoreboardAfterTimeout", spec := "scoreboardAfterTimeout", unfollowed := true, recurses := true, apart := false }
def ScoreboardAfterTimeoutSaid : Prop := scoreboardAfterTimeoutRow.holds Try.pinned (OpenSpec.ofChange scoreboardAfterTimeoutSpec)

/-- ITS FALSE NEIGHBOUR: 'it returns false'. Refute it at one input. -/
def scoreboardAfterTimeoutWrong : ChangeSpec := { name := "scoreboardAfterTimeout", fn := fun _ => fun
  | [d1, d2, d3, d4] => { results := [.lit (.bool false)], args := [d1, d2, d3, d4] }
  | _ => none }
def ScoreboardAfterTimeoutWrongFalsely : Prop := scoreboardAfterTimeoutRow.holds Try.pinned (OpenSpec.ofChange scoreboardAfterTimeoutWrong)

/-- 'stagepostlaw14.ScoreboardThreeSegments': WHATEVER THE INPUT: true; the input reads as it did. -/
def scoreboardThreeSegmentsSpec : ChangeSpec := { name := "scoreboardThreeSegments", fn := fun _ => fun
  | [d1, d2] => { results := [.lit (.bool true)], args := [d1, d2] }
  | _ => none }
def scoreboardThreeSegmentsRow : OpenClaim := { program := "ytncjeleabpodaaa", sum := "c7c748bda5623a9b0a8b5f5edb550cd22e868a32f202c48c19285dd62dead83e", func := "stagepost/stagepostlaw14.ScoreboardThreeSegments", spec := "scoreboardThreeSegments", unfollowed := true, recurses := true, apart := false }
def ScoreboardThreeSegmentsSaid : Prop := scoreboardThreeSegmentsRow.holds Try.pinned (OpenSpec.ofChange scoreboardThreeSegmentsSpec)

/-- ITS FALSE NEIGHBOUR: 'it returns false'. Refute it at one input. -/
def scoreboardThreeSegmentsWrong : ChangeSpec := { name := "scoreboardThreeSegments", fn := fun _ => fun
  | [d1, d2] => { results := [.lit (.bool false)], args := [d1, d2] }
  | _ => none }
def ScoreboardThreeSegmentsWrongFalsely : Prop := scoreboardThreeSegmentsRow.holds Try.pinned (OpenSpec.ofChange scoreboardThreeSegmentsWrong)

/-- 'stagepostlaw15.RTOScoreboard': WHATEVER THE INPUT: true; the input reads as it did. -/
def rTOScoreboardSpec : ChangeSpec := { name := "rTOScoreboard", fn := fun _ => fun
  | [d] => { results := [.lit (.bool true)], args := [d] }
  | _ => none }
def rTOScoreboardRow : OpenClaim := { program := "ytncjeleabpodaaa", sum := "c7c748bda5623a9b0a8b5f5edb550cd22e868a32f202c48c19285dd62dead83e", func := "stagepost/stagepostlaw15.RTOScoreboard", spec := "rTOScoreboard", unfollowed := true, recurses := true, apart := false }
def RTOScoreboardSaid : Prop := rTOScoreboardRow.holds Try.pinned (OpenSpec.ofChange rTOScoreboardSpec)

/-- ITS FALSE NEIGHBOUR: 'it returns false'. Refute it at one input. -/
def rTOScoreboardWrong : ChangeSpec := { name := "rTOScoreboard", fn := fun _ => fun
  | [d] => { results := [.lit (.bool false)], args := [d] }
  | _ => none }
def RTOScoreboardWrongFalsely : Prop := rTOScoreboardRow.holds Try.pinned (OpenSpec.ofChange rTOScoreboardWrong)

/-- 'stagepostlaw15.RTOSackBlocks': WHATEVER THE INPUT: true; the input reads as it did. -/
def rTOSackBlocksSpec : ChangeSpec := { name := "rTOSackBlocks", fn := fun _ => fun
  | [d1, d2] => { results := [.lit (.bool true)], args := [d1, d2] }
  | _ => none }
def rTOSackBlocksRow : OpenClaim := { program := "ytncjeleabpodaaa", sum := "c7c748bda5623a9b0a8b5f5edb550cd22e868a32f202c48c19285dd62dead83e", func := "stagepost/stagepostlaw15.RTOSackBlocks", spec := "rTOSackBlocks", inPlace := ["internal/abi.NoEscape"], unfollowed := true, recurses := true, apart := false }
def RTOSackBlocksSaid : Prop := rTOSackBlocksRow.holds Try.pinned (OpenSpec.ofChange rTOSackBlocksSpec)

/-- ITS FALSE NEIGHBOUR: 'it returns false'. Refute it at one input. -/
def rTOSackBlocksWrong : ChangeSpec := { name := "rTOSackBlocks", fn := fun _ => fun
  | [d1, d2] => { results := [.lit (.bool false)], args := [d1, d2] }
  | _ => none }
def RTOSackBlocksWrongFalsely : Prop := rTOSackBlocksRow.holds Try.pinned (OpenSpec.ofChange rTOSackBlocksWrong)

/- THE SECOND FORM. 'bulk': how many values and letters a reading holds, each counted each time it is reached (what is shared counts as often as it is met; a slice's spare places count too). A statement '..UptoSaid' is the law's where the arguments, and the package variables that the reading takes, are together of bulk at most 1048576: NARROWER than '..Said'. Prove '..Said' where nothing that the law and all that it calls make is longer than what came in: it says more and counts as full. Else prove '..UptoSaid'. A law counts once. -/
mutual
def uptoBulk {H : Type} : DataW H → Nat
  | .lit (.string bytes) => bytes.length + 1
  | .lit _ => 1
  | .nil => 1
  | .ptr d => uptoBulk d + 1
  | .slice elems spare => uptoBulkAll elems + uptoBulkAll spare + 1
  | .agg parts => uptoBulkAll parts + 1
  | .iface _ d => uptoBulk d + 1
  | .map entries => uptoBulkEntries entries + 1
  | .held _ => 1
def uptoBulkAll {H : Type} : List (DataW H) → Nat
  | [] => 0
  | d :: r => uptoBulk d + uptoBulkAll r
def uptoBulkEntries {H : Type} : List (Lit × DataW H) → Nat
  | [] => 0
  | x :: r => uptoBulkEntry x + uptoBulkEntries r
def uptoBulkEntry {H : Type} : Lit × DataW H → Nat
  | (.string bytes, d) => bytes.length + uptoBulk d + 1
  | (_, d) => uptoBulk d + 1
 end
def uptoSmall : (H : Type) → List (DataW H) → Bool := fun _ ds => decide (uptoBulkAll ds ≤ 1048576)
def OpenSpec.upto (s : _root_.Go.ChangeSpec) : _root_.Go.OpenSpec := { _root_.Go.OpenSpec.ofChange s with cond := some uptoSmall }

/-- 'stagepostlaw15.RTOFromSegments', WHERE WHAT IT READS IS OF BULK AT MOST 1048576: true; the input reads as it did. -/
def rTOFromSegmentsUptoRow : OpenClaim := { program := "ytncjeleabpodaaa", sum := "c7c748bda5623a9b0a8b5f5edb550cd22e868a32f202c48c19285dd62dead83e", func := "stagepost/stagepostlaw15.RTOFromSegments", spec := "rTOFromSegments", inPlace := ["internal/abi.NoEscape"], unfollowed := true, recurses := true, apart := false, narrowed := true }
def RTOFromSegmentsUptoSaid : Prop := rTOFromSegmentsUptoRow.holds Try.pinned (OpenSpec.upto rTOFromSegmentsSpec)

/-- 'stagepostlaw14.ScoreboardPartition', WHERE WHAT IT READS IS OF BULK AT MOST 1048576: true; the input reads as it did. -/
def scoreboardPartitionUptoRow : OpenClaim := { program := "ytncjeleabpodaaa", sum := "c7c748bda5623a9b0a8b5f5edb550cd22e868a32f202c48c19285dd62dead83e", func := "stagepost/stagepostlaw14.ScoreboardPartition", spec := "scoreboardPartition", unfollowed := true, recurses := true, apart := false, narrowed := true }
def ScoreboardPartitionUptoSaid : Prop := scoreboardPartitionUptoRow.holds Try.pinned (OpenSpec.upto scoreboardPartitionSpec)

/-- 'stagepostlaw14.ScoreboardRetransmitsOnce', WHERE WHAT IT READS IS OF BULK AT MOST 1048576: true; the input reads as it did. -/
def scoreboardRetransmitsOnceUptoRow : OpenClaim := { program := "ytncjeleabpodaaa", sum := "c7c748bda5623a9b0a8b5f5edb550cd22e868a32f202c48c19285dd62dead83e", func := "stagepost/stagepostlaw14.ScoreboardRetransmitsOnce", spec := "scoreboardRetransmitsOnce", unfollowed := true, recurses := true, apart := false, narrowed := true }
def ScoreboardRetransmitsOnceUptoSaid : Prop := scoreboardRetransmitsOnceUptoRow.holds Try.pinned (OpenSpec.upto scoreboardRetransmitsOnceSpec)

/-- 'stagepostlaw14.ScoreboardDrains', WHERE WHAT IT READS IS OF BULK AT MOST 1048576: true; the input reads as it did. -/
def scoreboardDrainsUptoRow : OpenClaim := { program := "ytncjeleabpodaaa", sum := "c7c748bda5623a9b0a8b5f5edb550cd22e868a32f202c48c19285dd62dead83e", func := "stagepost/stagepostlaw14.ScoreboardDrains", spec := "scoreboardDrains", unfollowed := true, recurses := true, apart := false, narrowed := true }
def ScoreboardDrainsUptoSaid : Prop := scoreboardDrainsUptoRow.holds Try.pinned (OpenSpec.upto scoreboardDrainsSpec)

/-- 'stagepostlaw14.ScoreboardAfterTimeout', WHERE WHAT IT READS IS OF BULK AT MOST 1048576: true; the input reads as it did. -/
def scoreboardAfterTimeoutUptoRow : OpenClaim := { program := "ytncjeleabpodaaa", sum := "c7c748bda5623a9b0a8b5f5edb550cd22e868a32f202c48c19285dd62dead83e", func := "stagepost/stagepostlaw14.ScoreboardAfterTimeout", spec := "scoreboardAfterTimeout", unfollowed := true, recurses := true, apart := false, narrowed := true }
def ScoreboardAfterTimeoutUptoSaid : Prop := scoreboardAfterTimeoutUptoRow.holds Try.pinned (OpenSpec.upto scoreboardAfterTimeoutSpec)

/-- 'stagepostlaw14.ScoreboardThreeSegments', WHERE WHAT IT READS IS OF BULK AT MOST 1048576: true; the input reads as it did. -/
def scoreboardThreeSegmentsUptoRow : OpenClaim := { program := "ytncjeleabpodaaa", sum := "c7c748bda5623a9b0a8b5f5edb550cd22e868a32f202c48c19285dd62dead83e", func := "stagepost/stagepostlaw14.ScoreboardThreeSegments", spec := "scoreboardThreeSegments", unfollowed := true, recurses := true, apart := false, narrowed := true }
def ScoreboardThreeSegmentsUptoSaid : Prop := scoreboardThreeSegmentsUptoRow.holds Try.pinned (OpenSpec.upto scoreboardThreeSegmentsSpec)

/-- 'stagepostlaw15.RTOScoreboard', WHERE WHAT IT READS IS OF BULK AT MOST 1048576: true; the input reads as it did. -/
def rTOScoreboardUptoRow : OpenClaim := { program := "ytncjeleabpodaaa", sum := "c7c748bda5623a9b0a8b5f5edb550cd22e868a32f202c48c19285dd62dead83e", func := "stagepost/stagepostlaw15.RTOScoreboard", spec := "rTOScoreboard", unfollowed := true, recurses := true, apart := false, narrowed := true }
def RTOScoreboardUptoSaid : Prop := rTOScoreboardUptoRow.holds Try.pinned (OpenSpec.upto rTOScoreboardSpec)

/-- 'stagepostlaw15.RTOSackBlocks', WHERE WHAT IT READS IS OF BULK AT MOST 1048576: true; the input reads as it did. -/
def rTOSackBlocksUptoRow : OpenClaim := { program := "ytncjeleabpodaaa", sum := "c7c748bda5623a9b0a8b5f5edb550cd22e868a32f202c48c19285dd62dead83e", func := "stagepost/stagepostlaw15.RTOSackBlocks", spec := "rTOSackBlocks", inPlace := ["internal/abi.NoEscape"], unfollowed := true, recurses := true, apart := false, narrowed := true }
def RTOSackBlocksUptoSaid : Prop := rTOSackBlocksUptoRow.holds Try.pinned (OpenSpec.upto rTOSackBlocksSpec)

end Rows
end Go.Proofs.Ytncjeleabpodaaa
