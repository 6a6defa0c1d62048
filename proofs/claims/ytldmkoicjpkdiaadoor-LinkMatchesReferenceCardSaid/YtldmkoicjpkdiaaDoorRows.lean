/-
  NARROWER THAN 'FOR EVERY INPUT', by the rows' own cells (each row's printed sentence says how): LinkMatchesReference: laid · LinkRoundTrip: laid · LinkCanonical: laid · LinkDetectsByteErrors: laid · LinkRejectsOtherLengths: laid · LinkChecksumLayout: laid · LinkDelivery: laid.
  DERIVED. THE GIVEN ROWS OF THIS SEAT. 7 by the template 'for every input the law returns true; each argument reads behind the call as it read before'; 0 by the template 'total and deterministic' (their statements: YtldmkoicjpkdiaaDoorTotals.lean).
  GIVEN WITH THE SEED: the statements are not yours to turn. If you find one false, say at which input.
  Laid BY PROGRAM, IN A SANDBOX (cutbox-rows.mjs): the forced cells as the released guide's own fill.sh prints them over the translation 46f7adcf505a0939… (all of the seat's roots in one cut). By AI agents, Wed Nov 11 2026. No macro, syntax, notation, axiom, sorry.
-/
import Derived.Test.YtldmkoicjpkdiaaDoorChecked
import GoSem.Claim
import GoSem.ClaimJoined
import GoSem.ClaimMapViews
import Derived.JoinedTies
import Derived.KernelRfl
namespace Go.Proofs.YtldmkoicjpkdiaaDoor
/- THE CELL 'sum', in the pinned program and in every row, IS THE sha256 OF THE DUMP (.gsa) THAT YtldmkoicjpkdiaaDoorProg.lean LOADS. Nothing in Lean hashes anything: it is a label: what it is worth is what the hold of that sum in a sandbox is worth. -/
noncomputable def Tryd.pinned : Pinned := { name := "ytldmkoicjpkdiaadoor", sum := "46f7adcf505a0939bf5b9e75fda62dca494306f5e59ccae692c58187b3b13a3b", checked := Tryd.checked }
namespace Rows
def none {H : Type} : Left H := { results := [], args := [] }

/- WHAT THE LISTED PACKAGE-LEVEL VARIABLES READ AS WHEN THE CALL BEGINS. Each datum BY PROGRAM (the guide's laid-datum.mjs) off the statement by which the dump's own 'gosem.cut.vars' lays the variable. In a bare row this is a premise. The card (YtldmkoicjpkdiaaDoorCards.lean) ties it to the program's text. -/
def laid_stagepost_link_errBroken {H : Type} : DataW H := .iface "*errors.errorString" (.ptr (.agg [.lit (.string [98, 114, 111, 107, 101, 110, 32, 102, 105, 101, 108, 100])]))

/-- 'stagepostlaw04.LinkMatchesReference': WHATEVER THE INPUT: true; the input reads as it did. -/
def linkMatchesReferenceSpec : ChangeSpec := { name := "linkMatchesReference", fn := fun _ => fun
  | [d1, d2, d3] => { results := [.lit (.bool true)], args := [d1, d2, d3] }
  | _ => none }
def linkMatchesReferenceRow : OpenClaim := { program := "ytldmkoicjpkdiaadoor", sum := "46f7adcf505a0939bf5b9e75fda62dca494306f5e59ccae692c58187b3b13a3b", func := "stagepost/stagepostlaw04.LinkMatchesReference", spec := "linkMatchesReference", inPlace := ["internal/abi.NoEscape", "internal/reflectlite.TypeOf"], unfollowed := true, recurses := true, named := ["stagepost/link.errBroken"], apart := false, laid := [("stagepost/link.errBroken", laid_stagepost_link_errBroken)] }
def LinkMatchesReferenceSaid : Prop := linkMatchesReferenceRow.holds Tryd.pinned (OpenSpec.ofChange linkMatchesReferenceSpec)

/-- ITS FALSE NEIGHBOUR: 'it returns false'. Refute it at one input. -/
def linkMatchesReferenceWrong : ChangeSpec := { name := "linkMatchesReference", fn := fun _ => fun
  | [d1, d2, d3] => { results := [.lit (.bool false)], args := [d1, d2, d3] }
  | _ => none }
def LinkMatchesReferenceWrongFalsely : Prop := linkMatchesReferenceRow.holds Tryd.pinned (OpenSpec.ofChange linkMatchesReferenceWrong)

/-- 'stagepostlaw04.LinkRoundTrip': WHATEVER THE INPUT: true; the input reads as it did. -/
def linkRoundTripSpec : ChangeSpec := { name := "linkRoundTrip", fn := fun _ => fun
  | [d] => { results := [.lit (.bool true)], args := [d] }
  | _ => none }
def linkRoundTripRow : OpenClaim := { program := "ytldmkoicjpkdiaadoor", sum := "46f7adcf505a0939bf5b9e75fda62dca494306f5e59ccae692c58187b3b13a3b", func := "stagepost/stagepostlaw04.LinkRoundTrip", spec := "linkRoundTrip", inPlace := ["internal/abi.NoEscape", "internal/reflectlite.TypeOf"], unfollowed := true, recurses := true, named := ["stagepost/link.errBroken"], apart := false, laid := [("stagepost/link.errBroken", laid_stagepost_link_errBroken)] }
def LinkRoundTripSaid : Prop := linkRoundTripRow.holds Tryd.pinned (OpenSpec.ofChange linkRoundTripSpec)

/-- ITS FALSE NEIGHBOUR: 'it returns false'. Refute it at one input. -/
def linkRoundTripWrong : ChangeSpec := { name := "linkRoundTrip", fn := fun _ => fun
  | [d] => { results := [.lit (.bool false)], args := [d] }
  | _ => none }
def LinkRoundTripWrongFalsely : Prop := linkRoundTripRow.holds Tryd.pinned (OpenSpec.ofChange linkRoundTripWrong)

/-- 'stagepostlaw04.LinkCanonical': WHATEVER THE INPUT: true; the input reads as it did. -/
def linkCanonicalSpec : ChangeSpec := { name := "linkCanonical", fn := fun _ => fun
  | [d] => { results := [.lit (.bool true)], args := [d] }
  | _ => none }
def linkCanonicalRow : OpenClaim := { program := "ytldmkoicjpkdiaadoor", sum := "46f7adcf505a0939bf5b9e75fda62dca494306f5e59ccae692c58187b3b13a3b", func := "stagepost/stagepostlaw04.LinkCanonical", spec := "linkCanonical", inPlace := ["internal/abi.NoEscape", "internal/reflectlite.TypeOf"], unfollowed := true, recurses := true, named := ["stagepost/link.errBroken"], apart := false, laid := [("stagepost/link.errBroken", laid_stagepost_link_errBroken)] }
def LinkCanonicalSaid : Prop := linkCanonicalRow.holds Tryd.pinned (OpenSpec.ofChange linkCanonicalSpec)

/-- ITS FALSE NEIGHBOUR: 'it returns false'. Refute it at one input. -/
def linkCanonicalWrong : ChangeSpec := { name := "linkCanonical", fn := fun _ => fun
  | [d] => { results := [.lit (.bool false)], args := [d] }
  | _ => none }
def LinkCanonicalWrongFalsely : Prop := linkCanonicalRow.holds Tryd.pinned (OpenSpec.ofChange linkCanonicalWrong)

/-- 'stagepostlaw04.LinkDetectsByteErrors': WHATEVER THE INPUT: true; the input reads as it did. -/
def linkDetectsByteErrorsSpec : ChangeSpec := { name := "linkDetectsByteErrors", fn := fun _ => fun
  | [d1, d2, d3] => { results := [.lit (.bool true)], args := [d1, d2, d3] }
  | _ => none }
def linkDetectsByteErrorsRow : OpenClaim := { program := "ytldmkoicjpkdiaadoor", sum := "46f7adcf505a0939bf5b9e75fda62dca494306f5e59ccae692c58187b3b13a3b", func := "stagepost/stagepostlaw04.LinkDetectsByteErrors", spec := "linkDetectsByteErrors", inPlace := ["internal/abi.NoEscape", "internal/reflectlite.TypeOf"], unfollowed := true, recurses := true, named := ["stagepost/link.errBroken"], apart := false, laid := [("stagepost/link.errBroken", laid_stagepost_link_errBroken)] }
def LinkDetectsByteErrorsSaid : Prop := linkDetectsByteErrorsRow.holds Tryd.pinned (OpenSpec.ofChange linkDetectsByteErrorsSpec)

/-- ITS FALSE NEIGHBOUR: 'it returns false'. Refute it at one input. -/
def linkDetectsByteErrorsWrong : ChangeSpec := { name := "linkDetectsByteErrors", fn := fun _ => fun
  | [d1, d2, d3] => { results := [.lit (.bool false)], args := [d1, d2, d3] }
  | _ => none }
def LinkDetectsByteErrorsWrongFalsely : Prop := linkDetectsByteErrorsRow.holds Tryd.pinned (OpenSpec.ofChange linkDetectsByteErrorsWrong)

/-- 'stagepostlaw04.LinkRejectsOtherLengths': WHATEVER THE INPUT: true; the input reads as it did. -/
def linkRejectsOtherLengthsSpec : ChangeSpec := { name := "linkRejectsOtherLengths", fn := fun _ => fun
  | [d1, d2, d3] => { results := [.lit (.bool true)], args := [d1, d2, d3] }
  | _ => none }
def linkRejectsOtherLengthsRow : OpenClaim := { program := "ytldmkoicjpkdiaadoor", sum := "46f7adcf505a0939bf5b9e75fda62dca494306f5e59ccae692c58187b3b13a3b", func := "stagepost/stagepostlaw04.LinkRejectsOtherLengths", spec := "linkRejectsOtherLengths", inPlace := ["internal/abi.NoEscape", "internal/reflectlite.TypeOf"], unfollowed := true, recurses := true, named := ["stagepost/link.errBroken"], apart := false, laid := [("stagepost/link.errBroken", laid_stagepost_link_errBroken)] }
def LinkRejectsOtherLengthsSaid : Prop := linkRejectsOtherLengthsRow.holds Tryd.pinned (OpenSpec.ofChange linkRejectsOtherLengthsSpec)

/-- ITS FALSE NEIGHBOUR: 'it returns false'. Refute it at one input. -/
def linkRejectsOtherLengthsWrong : ChangeSpec := { name := "linkRejectsOtherLengths", fn := fun _ => fun
  | [d1, d2, d3] => { results := [.lit (.bool false)], args := [d1, d2, d3] }
  | _ => none }
def LinkRejectsOtherLengthsWrongFalsely : Prop := linkRejectsOtherLengthsRow.holds Tryd.pinned (OpenSpec.ofChange linkRejectsOtherLengthsWrong)

/-- 'stagepostlaw04.LinkChecksumLayout': WHATEVER THE INPUT: true; the input reads as it did. -/
def linkChecksumLayoutSpec : ChangeSpec := { name := "linkChecksumLayout", fn := fun _ => fun
  | [d] => { results := [.lit (.bool true)], args := [d] }
  | _ => none }
def linkChecksumLayoutRow : OpenClaim := { program := "ytldmkoicjpkdiaadoor", sum := "46f7adcf505a0939bf5b9e75fda62dca494306f5e59ccae692c58187b3b13a3b", func := "stagepost/stagepostlaw04.LinkChecksumLayout", spec := "linkChecksumLayout", inPlace := ["internal/abi.NoEscape", "internal/reflectlite.TypeOf"], unfollowed := true, recurses := true, named := ["stagepost/link.errBroken"], apart := false, laid := [("stagepost/link.errBroken", laid_stagepost_link_errBroken)] }
def LinkChecksumLayoutSaid : Prop := linkChecksumLayoutRow.holds Tryd.pinned (OpenSpec.ofChange linkChecksumLayoutSpec)

/-- ITS FALSE NEIGHBOUR: 'it returns false'. Refute it at one input. -/
def linkChecksumLayoutWrong : ChangeSpec := { name := "linkChecksumLayout", fn := fun _ => fun
  | [d] => { results := [.lit (.bool false)], args := [d] }
  | _ => none }
def LinkChecksumLayoutWrongFalsely : Prop := linkChecksumLayoutRow.holds Tryd.pinned (OpenSpec.ofChange linkChecksumLayoutWrong)

/-- 'stagepostlaw04.LinkDelivery': WHATEVER THE INPUT: true; the input reads as it did. -/
def linkDeliverySpec : ChangeSpec := { name := "linkDelivery", fn := fun _ => fun
  | [d1, d2, d3] => { results := [.lit (.bool true)], args := [d1, d2, d3] }
  | _ => none }
def linkDeliveryRow : OpenClaim := { program := "ytldmkoicjpkdiaadoor", sum := "46f7adcf505a0939bf5b9e75fda62dca494306f5e59ccae692c58187b3b13a3b", func := "stagepost/stagepostlaw04.LinkDelivery", spec := "linkDelivery", inPlace := ["internal/abi.NoEscape", "internal/reflectlite.TypeOf"], unfollowed := true, recurses := true, named := ["stagepost/link.errBroken"], apart := false, laid := [("stagepost/link.errBroken", laid_stagepost_link_errBroken)] }
def LinkDeliverySaid : Prop := linkDeliveryRow.holds Tryd.pinned (OpenSpec.ofChange linkDeliverySpec)

/-- ITS FALSE NEIGHBOUR: 'it returns false'. Refute it at one input. -/
def linkDeliveryWrong : ChangeSpec := { name := "linkDelivery", fn := fun _ => fun
  | [d1, d2, d3] => { results := [.lit (.bool false)], args := [d1, d2, d3] }
  | _ => none }
def LinkDeliveryWrongFalsely : Prop := linkDeliveryRow.holds Tryd.pinned (OpenSpec.ofChange linkDeliveryWrong)

/- THE SECOND FORM. 'bulk': how many values and letters a reading holds, each counted each time it is reached (what is shared counts as often as it is met; a slice's spare places count too). A statement '..UptoSaid' is the law's where the arguments, and the package variables that the reading takes, are together of bulk at most 1048576: NARROWER than '..Said'. Prove '..Said' where nothing that the law and all that it calls make is longer than what came in: it says more and counts as full. Else prove '..UptoSaid'. A law counts once. -/
mutual
def uptoBulk {H : Type} : DataW H → Nat
  | .lit (.string bytes) => bytes.length + 1
  | .lit _ => 1
  | .nil => 1
  | .ptr d => uptoBulk d + 1
  | .slice elems spare => uptoBulkAll elems + uptoBulkAll spare + 1
  | .agg parts => uptoBulkAll parts + 1
  | .iface _ d => uptoBulk d + 1
  | .map entries => uptoBulkEntries entries + 1
  | .held _ => 1
def uptoBulkAll {H : Type} : List (DataW H) → Nat
  | [] => 0
  | d :: r => uptoBulk d + uptoBulkAll r
def uptoBulkEntries {H : Type} : List (Lit × DataW H) → Nat
  | [] => 0
  | x :: r => uptoBulkEntry x + uptoBulkEntries r
def uptoBulkEntry {H : Type} : Lit × DataW H → Nat
  | (.string bytes, d) => bytes.length + uptoBulk d + 1
  | (_, d) => uptoBulk d + 1
 end
def uptoSmall : (H : Type) → List (DataW H) → Bool := fun _ ds => decide (uptoBulkAll ds ≤ 1048576)
def OpenSpec.upto (s : _root_.Go.ChangeSpec) : _root_.Go.OpenSpec := { _root_.Go.OpenSpec.ofChange s with cond := some uptoSmall }

/-- 'stagepostlaw04.LinkMatchesReference', WHERE WHAT IT READS IS OF BULK AT MOST 1048576: true; the input reads as it did. -/
def linkMatchesReferenceUptoRow : OpenClaim := { program := "ytldmkoicjpkdiaadoor", sum := "46f7adcf505a0939bf5b9e75fda62dca494306f5e59ccae692c58187b3b13a3b", func := "stagepost/stagepostlaw04.LinkMatchesReference", spec := "linkMatchesReference", inPlace := ["internal/abi.NoEscape", "internal/reflectlite.TypeOf"], unfollowed := true, recurses := true, named := ["stagepost/link.errBroken"], apart := false, laid := [("stagepost/link.errBroken", laid_stagepost_link_errBroken)], narrowed := true }
def LinkMatchesReferenceUptoSaid : Prop := linkMatchesReferenceUptoRow.holds Tryd.pinned (OpenSpec.upto linkMatchesReferenceSpec)

/-- 'stagepostlaw04.LinkRoundTrip', WHERE WHAT IT READS IS OF BULK AT MOST 1048576: true; the input reads as it did. -/
def linkRoundTripUptoRow : OpenClaim := { program := "ytldmkoicjpkdiaadoor", sum := "46f7adcf505a0939bf5b9e75fda62dca494306f5e59ccae692c58187b3b13a3b", func := "stagepost/stagepostlaw04.LinkRoundTrip", spec := "linkRoundTrip", inPlace := ["internal/abi.NoEscape", "internal/reflectlite.TypeOf"], unfollowed := true, recurses := true, named := ["stagepost/link.errBroken"], apart := false, laid := [("stagepost/link.errBroken", laid_stagepost_link_errBroken)], narrowed := true }
def LinkRoundTripUptoSaid : Prop := linkRoundTripUptoRow.holds Tryd.pinned (OpenSpec.upto linkRoundTripSpec)

/-- 'stagepostlaw04.LinkCanonical', WHERE WHAT IT READS IS OF BULK AT MOST 1048576: true; the input reads as it did. -/
def linkCanonicalUptoRow : OpenClaim := { program := "ytldmkoicjpkdiaadoor", sum := "46f7adcf505a0939bf5b9e75fda62dca494306f5e59ccae692c58187b3b13a3b", func := "stagepost/stagepostlaw04.LinkCanonical", spec := "linkCanonical", inPlace := ["internal/abi.NoEscape", "internal/reflectlite.TypeOf"], unfollowed := true, recurses := true, named := ["stagepost/link.errBroken"], apart := false, laid := [("stagepost/link.errBroken", laid_stagepost_link_errBroken)], narrowed := true }
def LinkCanonicalUptoSaid : Prop := linkCanonicalUptoRow.holds Tryd.pinned (OpenSpec.upto linkCanonicalSpec)

/-- 'stagepostlaw04.LinkDetectsByteErrors', WHERE WHAT IT READS IS OF BULK AT MOST 1048576: true; the input reads as it did. -/
def linkDetectsByteErrorsUptoRow : OpenClaim := { program := "ytldmkoicjpkdiaadoor", sum := "46f7adcf505a0939bf5b9e75fda62dca494306f5e59ccae692c58187b3b13a3b", func := "stagepost/stagepostlaw04.LinkDetectsByteErrors", spec := "linkDetectsByteErrors", inPlace := ["internal/abi.NoEscape", "internal/reflectlite.TypeOf"], unfollowed := true, recurses := true, named := ["stagepost/link.errBroken"], apart := false, laid := [("stagepost/link.errBroken", laid_stagepost_link_errBroken)], narrowed := true }
def LinkDetectsByteErrorsUptoSaid : Prop := linkDetectsByteErrorsUptoRow.holds Tryd.pinned (OpenSpec.upto linkDetectsByteErrorsSpec)

/-- 'stagepostlaw04.LinkRejectsOtherLengths', WHERE WHAT IT READS IS OF BULK AT MOST 1048576: true; the input reads as it did. -/
def linkRejectsOtherLengthsUptoRow : OpenClaim := { program := "ytldmkoicjpkdiaadoor", sum := "46f7adcf505a0939bf5b9e75fda62dca494306f5e59ccae692c58187b3b13a3b", func := "stagepost/stagepostlaw04.LinkRejectsOtherLengths", spec := "linkRejectsOtherLengths", inPlace := ["internal/abi.NoEscape", "internal/reflectlite.TypeOf"], unfollowed := true, recurses := true, named := ["stagepost/link.errBroken"], apart := false, laid := [("stagepost/link.errBroken", laid_stagepost_link_errBroken)], narrowed := true }
def LinkRejectsOtherLengthsUptoSaid : Prop := linkRejectsOtherLengthsUptoRow.holds Tryd.pinned (OpenSpec.upto linkRejectsOtherLengthsSpec)

/-- 'stagepostlaw04.LinkChecksumLayout', WHERE WHAT IT READS IS OF BULK AT MOST 1048576: true; the input reads as it did. -/
def linkChecksumLayoutUptoRow : OpenClaim := { program := "ytldmkoicjpkdiaadoor", sum := "46f7adcf505a0939bf5b9e75fda62dca494306f5e59ccae692c58187b3b13a3b", func := "stagepost/stagepostlaw04.LinkChecksumLayout", spec := "linkChecksumLayout", inPlace := ["internal/abi.NoEscape", "internal/reflectlite.TypeOf"], unfollowed := true, recurses := true, named := ["stagepost/link.errBroken"], apart := false, laid := [("stagepost/link.errBroken", laid_stagepost_link_errBroken)], narrowed := true }
def LinkChecksumLayoutUptoSaid : Prop := linkChecksumLayoutUptoRow.holds Tryd.pinned (OpenSpec.upto linkChecksumLayoutSpec)

/-- 'stagepostlaw04.LinkDelivery', WHERE WHAT IT READS IS OF BULK AT MOST 1048576: true; the input reads as it did. -/
def linkDeliveryUptoRow : OpenClaim := { program := "ytldmkoicjpkdiaadoor", sum := "46f7adcf505a0939bf5b9e75fda62dca494306f5e59ccae692c58187b3b13a3b", func := "stagepost/stagepostlaw04.LinkDelivery", spec := "linkDelivery", inPlace := ["internal/abi.NoEscape", "internal/reflectlite.TypeOf"], unfollowed := true, recurses := true, named := ["stagepost/link.errBroken"], apart := false, laid := [("stagepost/link.errBroken", laid_stagepost_link_errBroken)], narrowed := true }
def LinkDeliveryUptoSaid : Prop := linkDeliveryUptoRow.holds Tryd.pinned (OpenSpec.upto linkDeliverySpec)

end Rows
end Go.Proofs.YtldmkoicjpkdiaaDoor
