/-
  No cell of these rows narrows 'for every input' (looked for: loops, veiled, ifaces, maps, wideKeys, modest, calm, conditions, laid).
  DERIVED. THE GIVEN ROWS OF THIS SEAT. 5 by the template 'for every input the law returns true; each argument reads behind the call as it read before'; 0 by the template 'total and deterministic' (their statements: YtldmkoicjpkdiaaTotals.lean).
  GIVEN WITH THE SEED: the statements are not yours to turn. If you find one false, say at which input.
  Laid BY PROGRAM, IN A SANDBOX (cutbox-rows.mjs): the forced cells as the released guide's own fill.sh prints them over the translation e5bcbbb1e19a5279… (all of the seat's roots in one cut). By AI agents, Wed Nov 11 2026. No macro, syntax, notation, axiom, sorry.
-/
import Derived.Test.YtldmkoicjpkdiaaChecked
import GoSem.Claim
import GoSem.ClaimJoined
import GoSem.ClaimMapViews
import Derived.JoinedTies
import Derived.KernelRfl
namespace Go.Proofs.Ytldmkoicjpkdiaa
/- THE CELL 'sum', in the pinned program and in every row, IS THE sha256 OF THE DUMP (.gsa) THAT YtldmkoicjpkdiaaProg.lean LOADS. Nothing in Lean hashes anything: it is a label: what it is worth is what the hold of that sum in a sandbox is worth. -/
noncomputable def Try.pinned : Pinned := { name := "ytldmkoicjpkdiaa", sum := "e5bcbbb1e19a5279a8a0429e7756ff3b1d5f9e33fd494e9f9880055e29fde826", checked := Try.checked }
namespace Rows
def none {H : Type} : Left H := { results := [], args := [] }

/-- 'stagepostlaw01.WireMatchesReference': WHATEVER THE INPUT: true; the input reads as it did. -/
def wireMatchesReferenceSpec : ChangeSpec := { name := "wireMatchesReference", fn := fun _ => fun
  | [d1, d2, d3, d4] => { results := [.lit (.bool true)], args := [d1, d2, d3, d4] }
  | _ => none }
def wireMatchesReferenceRow : OpenClaim := { program := "ytldmkoicjpkdiaa", sum := "e5bcbbb1e19a5279a8a0429e7756ff3b1d5f9e33fd494e9f9880055e29fde826", func := "stagepost/stagepostlaw01.WireMatchesReference", spec := "wireMatchesReference", unfollowed := true, recurses := true, apart := false }
def WireMatchesReferenceSaid : Prop := wireMatchesReferenceRow.holds Try.pinned (OpenSpec.ofChange wireMatchesReferenceSpec)

/-- ITS FALSE NEIGHBOUR: 'it returns false'. Refute it at one input. -/
def wireMatchesReferenceWrong : ChangeSpec := { name := "wireMatchesReference", fn := fun _ => fun
  | [d1, d2, d3, d4] => { results := [.lit (.bool false)], args := [d1, d2, d3, d4] }
  | _ => none }
def WireMatchesReferenceWrongFalsely : Prop := wireMatchesReferenceRow.holds Try.pinned (OpenSpec.ofChange wireMatchesReferenceWrong)

/-- 'stagepostlaw01.WireRoundTrip': WHATEVER THE INPUT: true; the input reads as it did. -/
def wireRoundTripSpec : ChangeSpec := { name := "wireRoundTrip", fn := fun _ => fun
  | [d1, d2, d3, d4] => { results := [.lit (.bool true)], args := [d1, d2, d3, d4] }
  | _ => none }
def wireRoundTripRow : OpenClaim := { program := "ytldmkoicjpkdiaa", sum := "e5bcbbb1e19a5279a8a0429e7756ff3b1d5f9e33fd494e9f9880055e29fde826", func := "stagepost/stagepostlaw01.WireRoundTrip", spec := "wireRoundTrip", unfollowed := true, recurses := true, apart := false }
def WireRoundTripSaid : Prop := wireRoundTripRow.holds Try.pinned (OpenSpec.ofChange wireRoundTripSpec)

/-- ITS FALSE NEIGHBOUR: 'it returns false'. Refute it at one input. -/
def wireRoundTripWrong : ChangeSpec := { name := "wireRoundTrip", fn := fun _ => fun
  | [d1, d2, d3, d4] => { results := [.lit (.bool false)], args := [d1, d2, d3, d4] }
  | _ => none }
def WireRoundTripWrongFalsely : Prop := wireRoundTripRow.holds Try.pinned (OpenSpec.ofChange wireRoundTripWrong)

/-- 'stagepostlaw01.WireChecksumZero': WHATEVER THE INPUT: true; the input reads as it did. -/
def wireChecksumZeroSpec : ChangeSpec := { name := "wireChecksumZero", fn := fun _ => fun
  | [d1, d2] => { results := [.lit (.bool true)], args := [d1, d2] }
  | _ => none }
def wireChecksumZeroRow : OpenClaim := { program := "ytldmkoicjpkdiaa", sum := "e5bcbbb1e19a5279a8a0429e7756ff3b1d5f9e33fd494e9f9880055e29fde826", func := "stagepost/stagepostlaw01.WireChecksumZero", spec := "wireChecksumZero", unfollowed := true, recurses := true, apart := false }
def WireChecksumZeroSaid : Prop := wireChecksumZeroRow.holds Try.pinned (OpenSpec.ofChange wireChecksumZeroSpec)

/-- ITS FALSE NEIGHBOUR: 'it returns false'. Refute it at one input. -/
def wireChecksumZeroWrong : ChangeSpec := { name := "wireChecksumZero", fn := fun _ => fun
  | [d1, d2] => { results := [.lit (.bool false)], args := [d1, d2] }
  | _ => none }
def WireChecksumZeroWrongFalsely : Prop := wireChecksumZeroRow.holds Try.pinned (OpenSpec.ofChange wireChecksumZeroWrong)

/-- 'stagepostlaw01.WireChecksumOrder': WHATEVER THE INPUT: true; the input reads as it did. -/
def wireChecksumOrderSpec : ChangeSpec := { name := "wireChecksumOrder", fn := fun _ => fun
  | [d1, d2, d3, d4] => { results := [.lit (.bool true)], args := [d1, d2, d3, d4] }
  | _ => none }
def wireChecksumOrderRow : OpenClaim := { program := "ytldmkoicjpkdiaa", sum := "e5bcbbb1e19a5279a8a0429e7756ff3b1d5f9e33fd494e9f9880055e29fde826", func := "stagepost/stagepostlaw01.WireChecksumOrder", spec := "wireChecksumOrder", unfollowed := true, recurses := true, apart := false }
def WireChecksumOrderSaid : Prop := wireChecksumOrderRow.holds Try.pinned (OpenSpec.ofChange wireChecksumOrderSpec)

/-- ITS FALSE NEIGHBOUR: 'it returns false'. Refute it at one input. -/
def wireChecksumOrderWrong : ChangeSpec := { name := "wireChecksumOrder", fn := fun _ => fun
  | [d1, d2, d3, d4] => { results := [.lit (.bool false)], args := [d1, d2, d3, d4] }
  | _ => none }
def WireChecksumOrderWrongFalsely : Prop := wireChecksumOrderRow.holds Try.pinned (OpenSpec.ofChange wireChecksumOrderWrong)

/-- 'stagepostlaw01.WireCRCDetects': WHATEVER THE INPUT: true; the input reads as it did. -/
def wireCRCDetectsSpec : ChangeSpec := { name := "wireCRCDetects", fn := fun _ => fun
  | [d1, d2, d3, d4, d5] => { results := [.lit (.bool true)], args := [d1, d2, d3, d4, d5] }
  | _ => none }
def wireCRCDetectsRow : OpenClaim := { program := "ytldmkoicjpkdiaa", sum := "e5bcbbb1e19a5279a8a0429e7756ff3b1d5f9e33fd494e9f9880055e29fde826", func := "stagepost/stagepostlaw01.WireCRCDetects", spec := "wireCRCDetects", unfollowed := true, recurses := true, apart := false }
def WireCRCDetectsSaid : Prop := wireCRCDetectsRow.holds Try.pinned (OpenSpec.ofChange wireCRCDetectsSpec)

/-- ITS FALSE NEIGHBOUR: 'it returns false'. Refute it at one input. -/
def wireCRCDetectsWrong : ChangeSpec := { name := "wireCRCDetects", fn := fun _ => fun
  | [d1, d2, d3, d4, d5] => { results := [.lit (.bool false)], args := [d1, d2, d3, d4, d5] }
  | _ => none }
def WireCRCDetectsWrongFalsely : Prop := wireCRCDetectsRow.holds Try.pinned (OpenSpec.ofChange wireCRCDetectsWrong)

/- THE SECOND FORM. 'bulk': how many values and letters a reading holds, each counted each time it is reached (what is shared counts as often as it is met; a slice's spare places count too). A statement '..UptoSaid' is the law's where the arguments, and the package variables that the reading takes, are together of bulk at most 1048576: NARROWER than '..Said'. Prove '..Said' where nothing that the law and all that it calls make is longer than what came in: it says more and counts as full. Else prove '..UptoSaid'. A law counts once. -/
mutual
def uptoBulk {H : Type} : DataW H → Nat
  | .lit (.string bytes) => bytes.length + 1
  | .lit _ => 1
  | .nil => 1
  | .ptr d => uptoBulk d + 1
  | .slice elems spare => uptoBulkAll elems + uptoBulkAll spare + 1
  | .agg parts => uptoBulkAll parts + 1
  | .iface _ d => uptoBulk d + 1
  | .map entries => uptoBulkEntries entries + 1
  | .held _ => 1
def uptoBulkAll {H : Type} : List (DataW H) → Nat
  | [] => 0
  | d :: r => uptoBulk d + uptoBulkAll r
def uptoBulkEntries {H : Type} : List (Lit × DataW H) → Nat
  | [] => 0
  | x :: r => uptoBulkEntry x + uptoBulkEntries r
def uptoBulkEntry {H : Type} : Lit × DataW H → Nat
  | (.string bytes, d) => bytes.length + uptoBulk d + 1
  | (_, d) => uptoBulk d + 1
 end
def uptoSmall : (H : Type) → List (DataW H) → Bool := fun _ ds => decide (uptoBulkAll ds ≤ 1048576)
def OpenSpec.upto (s : _root_.Go.ChangeSpec) : _root_.Go.OpenSpec := { _root_.Go.OpenSpec.ofChange s with cond := some uptoSmall }

/-- 'stagepostlaw01.WireMatchesReference', WHERE WHAT IT READS IS OF BULK AT MOST 1048576: true; the input reads as it did. -/
def wireMatchesReferenceUptoRow : OpenClaim := { program := "ytldmkoicjpkdiaa", sum := "e5bcbbb1e19a5279a8a0429e7756ff3b1d5f9e33fd494e9f9880055e29fde826", func := "stagepost/stagepostlaw01.WireMatchesReference", spec := "wireMatchesReference", unfollowed := true, recurses := true, apart := false, narrowed := true }
def WireMatchesReferenceUptoSaid : Prop := wireMatchesReferenceUptoRow.holds Try.pinned (OpenSpec.upto wireMatchesReferenceSpec)

/-- 'stagepostlaw01.WireRoundTrip', WHERE WHAT IT READS IS OF BULK AT MOST 1048576: true; the input reads as it did. -/
def wireRoundTripUptoRow : OpenClaim := { program := "ytldmkoicjpkdiaa", sum := "e5bcbbb1e19a5279a8a0429e7756ff3b1d5f9e33fd494e9f9880055e29fde826", func := "stagepost/stagepostlaw01.WireRoundTrip", spec := "wireRoundTrip", unfollowed := true, recurses := true, apart := false, narrowed := true }
def WireRoundTripUptoSaid : Prop := wireRoundTripUptoRow.holds Try.pinned (OpenSpec.upto wireRoundTripSpec)

/-- 'stagepostlaw01.WireChecksumZero', WHERE WHAT IT READS IS OF BULK AT MOST 1048576: true; the input reads as it did. -/
def wireChecksumZeroUptoRow : OpenClaim := { program := "ytldmkoicjpkdiaa", sum := "e5bcbbb1e19a5279a8a0429e7756ff3b1d5f9e33fd494e9f9880055e29fde826", func := "stagepost/stagepostlaw01.WireChecksumZero", spec := "wireChecksumZero", unfollowed := true, recurses := true, apart := false, narrowed := true }
def WireChecksumZeroUptoSaid : Prop := wireChecksumZeroUptoRow.holds Try.pinned (OpenSpec.upto wireChecksumZeroSpec)

/-- 'stagepostlaw01.WireChecksumOrder', WHERE WHAT IT READS IS OF BULK AT MOST 1048576: true; the input reads as it did. -/
def wireChecksumOrderUptoRow : OpenClaim := { program := "ytldmkoicjpkdiaa", sum := "e5bcbbb1e19a5279a8a0429e7756ff3b1d5f9e33fd494e9f9880055e29fde826", func := "stagepost/stagepostlaw01.WireChecksumOrder", spec := "wireChecksumOrder", unfollowed := true, recurses := true, apart := false, narrowed := true }
def WireChecksumOrderUptoSaid : Prop := wireChecksumOrderUptoRow.holds Try.pinned (OpenSpec.upto wireChecksumOrderSpec)

/-- 'stagepostlaw01.WireCRCDetects', WHERE WHAT IT READS IS OF BULK AT MOST 1048576: true; the input reads as it did. -/
def wireCRCDetectsUptoRow : OpenClaim := { program := "ytldmkoicjpkdiaa", sum := "e5bcbbb1e19a5279a8a0429e7756ff3b1d5f9e33fd494e9f9880055e29fde826", func := "stagepost/stagepostlaw01.WireCRCDetects", spec := "wireCRCDetects", unfollowed := true, recurses := true, apart := false, narrowed := true }
def WireCRCDetectsUptoSaid : Prop := wireCRCDetectsUptoRow.holds Try.pinned (OpenSpec.upto wireCRCDetectsSpec)

end Rows
end Go.Proofs.Ytldmkoicjpkdiaa
