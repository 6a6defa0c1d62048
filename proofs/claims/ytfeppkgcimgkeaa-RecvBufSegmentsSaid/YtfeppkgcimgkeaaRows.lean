/-
  No cell of these rows narrows 'for every input' (looked for: loops, veiled, ifaces, maps, wideKeys, modest, calm, conditions, laid).
  DERIVED. THE GIVEN ROWS OF THIS SEAT. 7 by the template 'for every input the law returns true; each argument reads behind the call as it read before'; 0 by the template 'total and deterministic' (their statements: YtfeppkgcimgkeaaTotals.lean).
  GIVEN WITH THE SEED: the statements are not yours to turn. If you find one false, say at which input.
  Laid BY PROGRAM, IN A SANDBOX (cutbox-rows.mjs): the forced cells as the released guide's own fill.sh prints them over the translation 0a1e0aa1dbea80f3… (all of the seat's roots in one cut). By AI agents, Wed Nov 11 2026. No macro, syntax, notation, axiom, sorry.
-/
import Derived.Test.YtfeppkgcimgkeaaChecked
import GoSem.Claim
import GoSem.ClaimJoined
import GoSem.ClaimMapViews
import Derived.JoinedTies
import Derived.KernelRfl
namespace Go.Proofs.Ytfeppkgcimgkeaa
/- THE CELL 'sum', in the pinned program and in every row, IS THE sha256 OF THE DUMP (.gsa) THAT YtfeppkgcimgkeaaProg.lean LOADS. Nothing in Lean hashes anything: it is a label: what it is worth is what the hold of that sum in a sandbox is worth. -/
noncomputable def Try.pinned : Pinned := { name := "ytfeppkgcimgkeaa", sum := "0a1e0aa1dbea80f3784e4d8798500e4f00862ab86de39fc2711dbf9681b44c35", checked := Try.checked }
namespace Rows
def none {H : Type} : Left H := { results := [], args := [] }

/-- 'stagepostlaw15.RTORecvBuf': WHATEVER THE INPUT: true; the input reads as it did. -/
def rTORecvBufSpec : ChangeSpec := { name := "rTORecvBuf", fn := fun _ => fun
  | [d1, d2] => { results := [.lit (.bool true)], args := [d1, d2] }
  | _ => none }
def rTORecvBufRow : OpenClaim := { program := "ytfeppkgcimgkeaa", sum := "0a1e0aa1dbea80f3784e4d8798500e4f00862ab86de39fc2711dbf9681b44c35", func := "stagepost/stagepostlaw15.RTORecvBuf", spec := "rTORecvBuf", unfollowed := true, recurses := true, apart := false }
def RTORecvBufSaid : Prop := rTORecvBufRow.holds Try.pinned (OpenSpec.ofChange rTORecvBufSpec)

/-- ITS FALSE NEIGHBOUR: 'it returns false'. Refute it at one input. -/
def rTORecvBufWrong : ChangeSpec := { name := "rTORecvBuf", fn := fun _ => fun
  | [d1, d2] => { results := [.lit (.bool false)], args := [d1, d2] }
  | _ => none }
def RTORecvBufWrongFalsely : Prop := rTORecvBufRow.holds Try.pinned (OpenSpec.ofChange rTORecvBufWrong)

/-- 'stagepostlaw13.RecvBufPrefix': WHATEVER THE INPUT: true; the input reads as it did. -/
def recvBufPrefixSpec : ChangeSpec := { name := "recvBufPrefix", fn := fun _ => fun
  | [d1, d2, d3] => { results := [.lit (.bool true)], args := [d1, d2, d3] }
  | _ => none }
def recvBufPrefixRow : OpenClaim := { program := "ytfeppkgcimgkeaa", sum := "0a1e0aa1dbea80f3784e4d8798500e4f00862ab86de39fc2711dbf9681b44c35", func := "stagepost/stagepostlaw13.RecvBufPrefix", spec := "recvBufPrefix", unfollowed := true, recurses := true, apart := false }
def RecvBufPrefixSaid : Prop := recvBufPrefixRow.holds Try.pinned (OpenSpec.ofChange recvBufPrefixSpec)

/-- ITS FALSE NEIGHBOUR: 'it returns false'. Refute it at one input. -/
def recvBufPrefixWrong : ChangeSpec := { name := "recvBufPrefix", fn := fun _ => fun
  | [d1, d2, d3] => { results := [.lit (.bool false)], args := [d1, d2, d3] }
  | _ => none }
def RecvBufPrefixWrongFalsely : Prop := recvBufPrefixRow.holds Try.pinned (OpenSpec.ofChange recvBufPrefixWrong)

/-- 'stagepostlaw13.RecvBufCompletes': WHATEVER THE INPUT: true; the input reads as it did. -/
def recvBufCompletesSpec : ChangeSpec := { name := "recvBufCompletes", fn := fun _ => fun
  | [d1, d2, d3, d4] => { results := [.lit (.bool true)], args := [d1, d2, d3, d4] }
  | _ => none }
def recvBufCompletesRow : OpenClaim := { program := "ytfeppkgcimgkeaa", sum := "0a1e0aa1dbea80f3784e4d8798500e4f00862ab86de39fc2711dbf9681b44c35", func := "stagepost/stagepostlaw13.RecvBufCompletes", spec := "recvBufCompletes", unfollowed := true, recurses := true, apart := false }
def RecvBufCompletesSaid : Prop := recvBufCompletesRow.holds Try.pinned (OpenSpec.ofChange recvBufCompletesSpec)

/-- ITS FALSE NEIGHBOUR: 'it returns false'. Refute it at one input. -/
def recvBufCompletesWrong : ChangeSpec := { name := "recvBufCompletes", fn := fun _ => fun
  | [d1, d2, d3, d4] => { results := [.lit (.bool false)], args := [d1, d2, d3, d4] }
  | _ => none }
def RecvBufCompletesWrongFalsely : Prop := recvBufCompletesRow.holds Try.pinned (OpenSpec.ofChange recvBufCompletesWrong)

/-- 'stagepostlaw13.RecvBufFirstCopyWins': WHATEVER THE INPUT: true; the input reads as it did. -/
def recvBufFirstCopyWinsSpec : ChangeSpec := { name := "recvBufFirstCopyWins", fn := fun _ => fun
  | [d1, d2, d3, d4] => { results := [.lit (.bool true)], args := [d1, d2, d3, d4] }
  | _ => none }
def recvBufFirstCopyWinsRow : OpenClaim := { program := "ytfeppkgcimgkeaa", sum := "0a1e0aa1dbea80f3784e4d8798500e4f00862ab86de39fc2711dbf9681b44c35", func := "stagepost/stagepostlaw13.RecvBufFirstCopyWins", spec := "recvBufFirstCopyWins", unfollowed := true, recurses := true, apart := false }
def RecvBufFirstCopyWinsSaid : Prop := recvBufFirstCopyWinsRow.holds Try.pinned (OpenSpec.ofChange recvBufFirstCopyWinsSpec)

/-- ITS FALSE NEIGHBOUR: 'it returns false'. Refute it at one input. -/
def recvBufFirstCopyWinsWrong : ChangeSpec := { name := "recvBufFirstCopyWins", fn := fun _ => fun
  | [d1, d2, d3, d4] => { results := [.lit (.bool false)], args := [d1, d2, d3, d4] }
  | _ => none }
def RecvBufFirstCopyWinsWrongFalsely : Prop := recvBufFirstCopyWinsRow.holds Try.pinned (OpenSpec.ofChange recvBufFirstCopyWinsWrong)

/-- 'stagepostlaw13.RecvBufNilAndInvalid': WHATEVER THE INPUT: true; the input reads as it did. -/
def recvBufNilAndInvalidSpec : ChangeSpec := { name := "recvBufNilAndInvalid", fn := fun _ => fun
  | [d1, d2, d3] => { results := [.lit (.bool true)], args := [d1, d2, d3] }
  | _ => none }
def recvBufNilAndInvalidRow : OpenClaim := { program := "ytfeppkgcimgkeaa", sum := "0a1e0aa1dbea80f3784e4d8798500e4f00862ab86de39fc2711dbf9681b44c35", func := "stagepost/stagepostlaw13.RecvBufNilAndInvalid", spec := "recvBufNilAndInvalid", unfollowed := true, recurses := true, apart := false }
def RecvBufNilAndInvalidSaid : Prop := recvBufNilAndInvalidRow.holds Try.pinned (OpenSpec.ofChange recvBufNilAndInvalidSpec)

/-- ITS FALSE NEIGHBOUR: 'it returns false'. Refute it at one input. -/
def recvBufNilAndInvalidWrong : ChangeSpec := { name := "recvBufNilAndInvalid", fn := fun _ => fun
  | [d1, d2, d3] => { results := [.lit (.bool false)], args := [d1, d2, d3] }
  | _ => none }
def RecvBufNilAndInvalidWrongFalsely : Prop := recvBufNilAndInvalidRow.holds Try.pinned (OpenSpec.ofChange recvBufNilAndInvalidWrong)

/-- 'stagepostlaw13.RecvBufSackBlocks': WHATEVER THE INPUT: true; the input reads as it did. -/
def recvBufSackBlocksSpec : ChangeSpec := { name := "recvBufSackBlocks", fn := fun _ => fun
  | [d1, d2] => { results := [.lit (.bool true)], args := [d1, d2] }
  | _ => none }
def recvBufSackBlocksRow : OpenClaim := { program := "ytfeppkgcimgkeaa", sum := "0a1e0aa1dbea80f3784e4d8798500e4f00862ab86de39fc2711dbf9681b44c35", func := "stagepost/stagepostlaw13.RecvBufSackBlocks", spec := "recvBufSackBlocks", unfollowed := true, recurses := true, apart := false }
def RecvBufSackBlocksSaid : Prop := recvBufSackBlocksRow.holds Try.pinned (OpenSpec.ofChange recvBufSackBlocksSpec)

/-- ITS FALSE NEIGHBOUR: 'it returns false'. Refute it at one input. -/
def recvBufSackBlocksWrong : ChangeSpec := { name := "recvBufSackBlocks", fn := fun _ => fun
  | [d1, d2] => { results := [.lit (.bool false)], args := [d1, d2] }
  | _ => none }
def RecvBufSackBlocksWrongFalsely : Prop := recvBufSackBlocksRow.holds Try.pinned (OpenSpec.ofChange recvBufSackBlocksWrong)

/-- 'stagepostlaw13.RecvBufSegments': WHATEVER THE INPUT: true; the input reads as it did. -/
def recvBufSegmentsSpec : ChangeSpec := { name := "recvBufSegments", fn := fun _ => fun
  | [d1, d2, d3] => { results := [.lit (.bool true)], args := [d1, d2, d3] }
  | _ => none }
def recvBufSegmentsRow : OpenClaim := { program := "ytfeppkgcimgkeaa", sum := "0a1e0aa1dbea80f3784e4d8798500e4f00862ab86de39fc2711dbf9681b44c35", func := "stagepost/stagepostlaw13.RecvBufSegments", spec := "recvBufSegments", inPlace := ["internal/abi.NoEscape"], unfollowed := true, recurses := true, apart := false }
def RecvBufSegmentsSaid : Prop := recvBufSegmentsRow.holds Try.pinned (OpenSpec.ofChange recvBufSegmentsSpec)

/-- ITS FALSE NEIGHBOUR: 'it returns false'. Refute it at one input. -/
def recvBufSegmentsWrong : ChangeSpec := { name := "recvBufSegments", fn := fun _ => fun
  | [d1, d2, d3] => { results := [.lit (.bool false)], args := [d1, d2, d3] }
  | _ => none }
def RecvBufSegmentsWrongFalsely : Prop := recvBufSegmentsRow.holds Try.pinned (OpenSpec.ofChange recvBufSegmentsWrong)

/- THE SECOND FORM. 'bulk': how many values and letters a reading holds, each counted each time it is reached (what is shared counts as often as it is met; a slice's spare places count too). A statement '..UptoSaid' is the law's where the arguments, and the package variables that the reading takes, are together of bulk at most 1048576: NARROWER than '..Said'. Prove '..Said' where nothing that the law and all that it calls make is longer than what came in: it says more and counts as full. Else prove '..UptoSaid'. A law counts once. -/
mutual
def uptoBulk {H : Type} : DataW H → Nat
  | .lit (.string bytes) => bytes.length + 1
  | .lit _ => 1
  | .nil => 1
  | .ptr d => uptoBulk d + 1
  | .slice elems spare => uptoBulkAll elems + uptoBulkAll spare + 1
  | .agg parts => uptoBulkAll parts + 1
  | .iface _ d => uptoBulk d + 1
  | .map entries => uptoBulkEntries entries + 1
  | .held _ => 1
def uptoBulkAll {H : Type} : List (DataW H) → Nat
  | [] => 0
  | d :: r => uptoBulk d + uptoBulkAll r
def uptoBulkEntries {H : Type} : List (Lit × DataW H) → Nat
  | [] => 0
  | x :: r => uptoBulkEntry x + uptoBulkEntries r
def uptoBulkEntry {H : Type} : Lit × DataW H → Nat
  | (.string bytes, d) => bytes.length + uptoBulk d + 1
  | (_, d) => uptoBulk d + 1
 end
def uptoSmall : (H : Type) → List (DataW H) → Bool := fun _ ds => decide (uptoBulkAll ds ≤ 1048576)
def OpenSpec.upto (s : _root_.Go.ChangeSpec) : _root_.Go.OpenSpec := { _root_.Go.OpenSpec.ofChange s with cond := some uptoSmall }

/-- 'stagepostlaw15.RTORecvBuf', WHERE WHAT IT READS IS OF BULK AT MOST 1048576: true; the input reads as it did. -/
def rTORecvBufUptoRow : OpenClaim := { program := "ytfeppkgcimgkeaa", sum := "0a1e0aa1dbea80f3784e4d8798500e4f00862ab86de39fc2711dbf9681b44c35", func := "stagepost/stagepostlaw15.RTORecvBuf", spec := "rTORecvBuf", unfollowed := true, recurses := true, apart := false, narrowed := true }
def RTORecvBufUptoSaid : Prop := rTORecvBufUptoRow.holds Try.pinned (OpenSpec.upto rTORecvBufSpec)

/-- 'stagepostlaw13.RecvBufPrefix', WHERE WHAT IT READS IS OF BULK AT MOST 1048576: true; the input reads as it did. -/
def recvBufPrefixUptoRow : OpenClaim := { program := "ytfeppkgcimgkeaa", sum := "0a1e0aa1dbea80f3784e4d8798500e4f00862ab86de39fc2711dbf9681b44c35", func := "stagepost/stagepostlaw13.RecvBufPrefix", spec := "recvBufPrefix", unfollowed := true, recurses := true, apart := false, narrowed := true }
def RecvBufPrefixUptoSaid : Prop := recvBufPrefixUptoRow.holds Try.pinned (OpenSpec.upto recvBufPrefixSpec)

/-- 'stagepostlaw13.RecvBufCompletes', WHERE WHAT IT READS IS OF BULK AT MOST 1048576: true; the input reads as it did. -/
def recvBufCompletesUptoRow : OpenClaim := { program := "ytfeppkgcimgkeaa", sum := "0a1e0aa1dbea80f3784e4d8798500e4f00862ab86de39fc2711dbf9681b44c35", func := "stagepost/stagepostlaw13.RecvBufCompletes", spec := "recvBufCompletes", unfollowed := true, recurses := true, apart := false, narrowed := true }
def RecvBufCompletesUptoSaid : Prop := recvBufCompletesUptoRow.holds Try.pinned (OpenSpec.upto recvBufCompletesSpec)

/-- 'stagepostlaw13.RecvBufFirstCopyWins', WHERE WHAT IT READS IS OF BULK AT MOST 1048576: true; the input reads as it did. -/
def recvBufFirstCopyWinsUptoRow : OpenClaim := { program := "ytfeppkgcimgkeaa", sum := "0a1e0aa1dbea80f3784e4d8798500e4f00862ab86de39fc2711dbf9681b44c35", func := "stagepost/stagepostlaw13.RecvBufFirstCopyWins", spec := "recvBufFirstCopyWins", unfollowed := true, recurses := true, apart := false, narrowed := true }
def RecvBufFirstCopyWinsUptoSaid : Prop := recvBufFirstCopyWinsUptoRow.holds Try.pinned (OpenSpec.upto recvBufFirstCopyWinsSpec)

/-- 'stagepostlaw13.RecvBufNilAndInvalid', WHERE WHAT IT READS IS OF BULK AT MOST 1048576: true; the input reads as it did. -/
def recvBufNilAndInvalidUptoRow : OpenClaim := { program := "ytfeppkgcimgkeaa", sum := "0a1e0aa1dbea80f3784e4d8798500e4f00862ab86de39fc2711dbf9681b44c35", func := "stagepost/stagepostlaw13.RecvBufNilAndInvalid", spec := "recvBufNilAndInvalid", unfollowed := true, recurses := true, apart := false, narrowed := true }
def RecvBufNilAndInvalidUptoSaid : Prop := recvBufNilAndInvalidUptoRow.holds Try.pinned (OpenSpec.upto recvBufNilAndInvalidSpec)

/-- 'stagepostlaw13.RecvBufSackBlocks', WHERE WHAT IT READS IS OF BULK AT MOST 1048576: true; the input reads as it did. -/
def recvBufSackBlocksUptoRow : OpenClaim := { program := "ytfeppkgcimgkeaa", sum := "0a1e0aa1dbea80f3784e4d8798500e4f00862ab86de39fc2711dbf9681b44c35", func := "stagepost/stagepostlaw13.RecvBufSackBlocks", spec := "recvBufSackBlocks", unfollowed := true, recurses := true, apart := false, narrowed := true }
def RecvBufSackBlocksUptoSaid : Prop := recvBufSackBlocksUptoRow.holds Try.pinned (OpenSpec.upto recvBufSackBlocksSpec)

/-- 'stagepostlaw13.RecvBufSegments', WHERE WHAT IT READS IS OF BULK AT MOST 1048576: true; the input reads as it did. -/
def recvBufSegmentsUptoRow : OpenClaim := { program := "ytfeppkgcimgkeaa", sum := "0a1e0aa1dbea80f3784e4d8798500e4f00862ab86de39fc2711dbf9681b44c35", func := "stagepost/stagepostlaw13.RecvBufSegments", spec := "recvBufSegments", inPlace := ["internal/abi.NoEscape"], unfollowed := true, recurses := true, apart := false, narrowed := true }
def RecvBufSegmentsUptoSaid : Prop := recvBufSegmentsUptoRow.holds Try.pinned (OpenSpec.upto recvBufSegmentsSpec)

end Rows
end Go.Proofs.Ytfeppkgcimgkeaa
