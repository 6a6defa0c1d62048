/-
  No cell of these rows narrows 'for every input' (looked for: loops, veiled, ifaces, maps, wideKeys, modest, calm, conditions, laid).
  DERIVED. THE GIVEN ROWS OF THIS SEAT. 7 by the template 'for every input the law returns true; each argument reads behind the call as it read before'; 0 by the template 'total and deterministic' (their statements: YtgbmkoodhmchoaaTotals.lean).
  GIVEN WITH THE SEED: the statements are not yours to turn. If you find one false, say at which input.
  Laid BY PROGRAM, IN A SANDBOX (cutbox-rows.mjs): the forced cells as the released guide's own fill.sh prints them over the translation 2c8a2a4b3c27de63… (all of the seat's roots in one cut). By AI agents, Wed Nov 11 2026. No macro, syntax, notation, axiom, sorry.
-/
import Derived.Test.YtgbmkoodhmchoaaChecked
import GoSem.Claim
import GoSem.ClaimJoined
import GoSem.ClaimMapViews
import Derived.JoinedTies
import Derived.KernelRfl
namespace Go.Proofs.Ytgbmkoodhmchoaa
/- THE CELL 'sum', in the pinned program and in every row, IS THE sha256 OF THE DUMP (.gsa) THAT YtgbmkoodhmchoaaProg.lean LOADS. Nothing in Lean hashes anything: it is a label: what it is worth is what the hold of that sum in a sandbox is worth. -/
noncomputable def Try.pinned : Pinned := { name := "ytgbmkoodhmchoaa", sum := "2c8a2a4b3c27de63b2cc51296ddf199c8730d1f210157b7ff89f557648e43ae9", checked := Try.checked }
namespace Rows
def none {H : Type} : Left H := { results := [], args := [] }

/-- 'stagepostlaw15.RTOMatchesReference': WHATEVER THE INPUT: true; the input reads as it did. -/
def rTOMatchesReferenceSpec : ChangeSpec := { name := "rTOMatchesReference", fn := fun _ => fun
  | [d1, d2] => { results := [.lit (.bool true)], args := [d1, d2] }
  | _ => none }
def rTOMatchesReferenceRow : OpenClaim := { program := "ytgbmkoodhmchoaa", sum := "2c8a2a4b3c27de63b2cc51296ddf199c8730d1f210157b7ff89f557648e43ae9", func := "stagepost/stagepostlaw15.RTOMatchesReference", spec := "rTOMatchesReference", apart := false }
def RTOMatchesReferenceSaid : Prop := rTOMatchesReferenceRow.holds Try.pinned (OpenSpec.ofChange rTOMatchesReferenceSpec)

/-- ITS FALSE NEIGHBOUR: 'it returns false'. Refute it at one input. -/
def rTOMatchesReferenceWrong : ChangeSpec := { name := "rTOMatchesReference", fn := fun _ => fun
  | [d1, d2] => { results := [.lit (.bool false)], args := [d1, d2] }
  | _ => none }
def RTOMatchesReferenceWrongFalsely : Prop := rTOMatchesReferenceRow.holds Try.pinned (OpenSpec.ofChange rTOMatchesReferenceWrong)

/-- 'stagepostlaw15.RTOBounded': WHATEVER THE INPUT: true; the input reads as it did. -/
def rTOBoundedSpec : ChangeSpec := { name := "rTOBounded", fn := fun _ => fun
  | [d] => { results := [.lit (.bool true)], args := [d] }
  | _ => none }
def rTOBoundedRow : OpenClaim := { program := "ytgbmkoodhmchoaa", sum := "2c8a2a4b3c27de63b2cc51296ddf199c8730d1f210157b7ff89f557648e43ae9", func := "stagepost/stagepostlaw15.RTOBounded", spec := "rTOBounded", apart := false }
def RTOBoundedSaid : Prop := rTOBoundedRow.holds Try.pinned (OpenSpec.ofChange rTOBoundedSpec)

/-- ITS FALSE NEIGHBOUR: 'it returns false'. Refute it at one input. -/
def rTOBoundedWrong : ChangeSpec := { name := "rTOBounded", fn := fun _ => fun
  | [d] => { results := [.lit (.bool false)], args := [d] }
  | _ => none }
def RTOBoundedWrongFalsely : Prop := rTOBoundedRow.holds Try.pinned (OpenSpec.ofChange rTOBoundedWrong)

/-- 'stagepostlaw15.RTOKarn': WHATEVER THE INPUT: true; the input reads as it did. -/
def rTOKarnSpec : ChangeSpec := { name := "rTOKarn", fn := fun _ => fun
  | [d1, d2, d3, d4] => { results := [.lit (.bool true)], args := [d1, d2, d3, d4] }
  | _ => none }
def rTOKarnRow : OpenClaim := { program := "ytgbmkoodhmchoaa", sum := "2c8a2a4b3c27de63b2cc51296ddf199c8730d1f210157b7ff89f557648e43ae9", func := "stagepost/stagepostlaw15.RTOKarn", spec := "rTOKarn", apart := false }
def RTOKarnSaid : Prop := rTOKarnRow.holds Try.pinned (OpenSpec.ofChange rTOKarnSpec)

/-- ITS FALSE NEIGHBOUR: 'it returns false'. Refute it at one input. -/
def rTOKarnWrong : ChangeSpec := { name := "rTOKarn", fn := fun _ => fun
  | [d1, d2, d3, d4] => { results := [.lit (.bool false)], args := [d1, d2, d3, d4] }
  | _ => none }
def RTOKarnWrongFalsely : Prop := rTOKarnRow.holds Try.pinned (OpenSpec.ofChange rTOKarnWrong)

/-- 'stagepostlaw15.RTOConverges': WHATEVER THE INPUT: true; the input reads as it did. -/
def rTOConvergesSpec : ChangeSpec := { name := "rTOConverges", fn := fun _ => fun
  | [d1, d2] => { results := [.lit (.bool true)], args := [d1, d2] }
  | _ => none }
def rTOConvergesRow : OpenClaim := { program := "ytgbmkoodhmchoaa", sum := "2c8a2a4b3c27de63b2cc51296ddf199c8730d1f210157b7ff89f557648e43ae9", func := "stagepost/stagepostlaw15.RTOConverges", spec := "rTOConverges", apart := false }
def RTOConvergesSaid : Prop := rTOConvergesRow.holds Try.pinned (OpenSpec.ofChange rTOConvergesSpec)

/-- ITS FALSE NEIGHBOUR: 'it returns false'. Refute it at one input. -/
def rTOConvergesWrong : ChangeSpec := { name := "rTOConverges", fn := fun _ => fun
  | [d1, d2] => { results := [.lit (.bool false)], args := [d1, d2] }
  | _ => none }
def RTOConvergesWrongFalsely : Prop := rTOConvergesRow.holds Try.pinned (OpenSpec.ofChange rTOConvergesWrong)

/-- 'stagepostlaw15.RTOSingleTiming': WHATEVER THE INPUT: true; the input reads as it did. -/
def rTOSingleTimingSpec : ChangeSpec := { name := "rTOSingleTiming", fn := fun _ => fun
  | [d1, d2, d3, d4] => { results := [.lit (.bool true)], args := [d1, d2, d3, d4] }
  | _ => none }
def rTOSingleTimingRow : OpenClaim := { program := "ytgbmkoodhmchoaa", sum := "2c8a2a4b3c27de63b2cc51296ddf199c8730d1f210157b7ff89f557648e43ae9", func := "stagepost/stagepostlaw15.RTOSingleTiming", spec := "rTOSingleTiming", apart := false }
def RTOSingleTimingSaid : Prop := rTOSingleTimingRow.holds Try.pinned (OpenSpec.ofChange rTOSingleTimingSpec)

/-- ITS FALSE NEIGHBOUR: 'it returns false'. Refute it at one input. -/
def rTOSingleTimingWrong : ChangeSpec := { name := "rTOSingleTiming", fn := fun _ => fun
  | [d1, d2, d3, d4] => { results := [.lit (.bool false)], args := [d1, d2, d3, d4] }
  | _ => none }
def RTOSingleTimingWrongFalsely : Prop := rTOSingleTimingRow.holds Try.pinned (OpenSpec.ofChange rTOSingleTimingWrong)

/-- 'stagepostlaw15.RTOTimeShift': WHATEVER THE INPUT: true; the input reads as it did. -/
def rTOTimeShiftSpec : ChangeSpec := { name := "rTOTimeShift", fn := fun _ => fun
  | [d1, d2] => { results := [.lit (.bool true)], args := [d1, d2] }
  | _ => none }
def rTOTimeShiftRow : OpenClaim := { program := "ytgbmkoodhmchoaa", sum := "2c8a2a4b3c27de63b2cc51296ddf199c8730d1f210157b7ff89f557648e43ae9", func := "stagepost/stagepostlaw15.RTOTimeShift", spec := "rTOTimeShift", apart := false }
def RTOTimeShiftSaid : Prop := rTOTimeShiftRow.holds Try.pinned (OpenSpec.ofChange rTOTimeShiftSpec)

/-- ITS FALSE NEIGHBOUR: 'it returns false'. Refute it at one input. -/
def rTOTimeShiftWrong : ChangeSpec := { name := "rTOTimeShift", fn := fun _ => fun
  | [d1, d2] => { results := [.lit (.bool false)], args := [d1, d2] }
  | _ => none }
def RTOTimeShiftWrongFalsely : Prop := rTOTimeShiftRow.holds Try.pinned (OpenSpec.ofChange rTOTimeShiftWrong)

/-- 'stagepostlaw15.RTOSequenceWraps': WHATEVER THE INPUT: true; the input reads as it did. -/
def rTOSequenceWrapsSpec : ChangeSpec := { name := "rTOSequenceWraps", fn := fun _ => fun
  | [d1, d2, d3] => { results := [.lit (.bool true)], args := [d1, d2, d3] }
  | _ => none }
def rTOSequenceWrapsRow : OpenClaim := { program := "ytgbmkoodhmchoaa", sum := "2c8a2a4b3c27de63b2cc51296ddf199c8730d1f210157b7ff89f557648e43ae9", func := "stagepost/stagepostlaw15.RTOSequenceWraps", spec := "rTOSequenceWraps", unfollowed := true, recurses := true, apart := false }
def RTOSequenceWrapsSaid : Prop := rTOSequenceWrapsRow.holds Try.pinned (OpenSpec.ofChange rTOSequenceWrapsSpec)

/-- ITS FALSE NEIGHBOUR: 'it returns false'. Refute it at one input. -/
def rTOSequenceWrapsWrong : ChangeSpec := { name := "rTOSequenceWraps", fn := fun _ => fun
  | [d1, d2, d3] => { results := [.lit (.bool false)], args := [d1, d2, d3] }
  | _ => none }
def RTOSequenceWrapsWrongFalsely : Prop := rTOSequenceWrapsRow.holds Try.pinned (OpenSpec.ofChange rTOSequenceWrapsWrong)

/- THE SECOND FORM. 'bulk': how many values and letters a reading holds, each counted each time it is reached (what is shared counts as often as it is met; a slice's spare places count too). A statement '..UptoSaid' is the law's where the arguments, and the package variables that the reading takes, are together of bulk at most 1048576: NARROWER than '..Said'. Prove '..Said' where nothing that the law and all that it calls make is longer than what came in: it says more and counts as full. Else prove '..UptoSaid'. A law counts once. -/
mutual
def uptoBulk {H : Type} : DataW H → Nat
  | .lit (.string bytes) => bytes.length + 1
  | .lit _ => 1
  | .nil => 1
  | .ptr d => uptoBulk d + 1
  | .slice elems spare => uptoBulkAll elems + uptoBulkAll spare + 1
  | .agg parts => uptoBulkAll parts + 1
  | .iface _ d => uptoBulk d + 1
  | .map entries => uptoBulkEntries entries + 1
  | .held _ => 1
def uptoBulkAll {H : Type} : List (DataW H) → Nat
  | [] => 0
  | d :: r => uptoBulk d + uptoBulkAll r
def uptoBulkEntries {H : Type} : List (Lit × DataW H) → Nat
  | [] => 0
  | x :: r => uptoBulkEntry x + uptoBulkEntries r
def uptoBulkEntry {H : Type} : Lit × DataW H → Nat
  | (.string bytes, d) => bytes.length + uptoBulk d + 1
  | (_, d) => uptoBulk d + 1
 end
def uptoSmall : (H : Type) → List (DataW H) → Bool := fun _ ds => decide (uptoBulkAll ds ≤ 1048576)
def OpenSpec.upto (s : _root_.Go.ChangeSpec) : _root_.Go.OpenSpec := { _root_.Go.OpenSpec.ofChange s with cond := some uptoSmall }

/-- 'stagepostlaw15.RTOMatchesReference', WHERE WHAT IT READS IS OF BULK AT MOST 1048576: true; the input reads as it did. -/
def rTOMatchesReferenceUptoRow : OpenClaim := { program := "ytgbmkoodhmchoaa", sum := "2c8a2a4b3c27de63b2cc51296ddf199c8730d1f210157b7ff89f557648e43ae9", func := "stagepost/stagepostlaw15.RTOMatchesReference", spec := "rTOMatchesReference", apart := false, narrowed := true }
def RTOMatchesReferenceUptoSaid : Prop := rTOMatchesReferenceUptoRow.holds Try.pinned (OpenSpec.upto rTOMatchesReferenceSpec)

/-- 'stagepostlaw15.RTOBounded', WHERE WHAT IT READS IS OF BULK AT MOST 1048576: true; the input reads as it did. -/
def rTOBoundedUptoRow : OpenClaim := { program := "ytgbmkoodhmchoaa", sum := "2c8a2a4b3c27de63b2cc51296ddf199c8730d1f210157b7ff89f557648e43ae9", func := "stagepost/stagepostlaw15.RTOBounded", spec := "rTOBounded", apart := false, narrowed := true }
def RTOBoundedUptoSaid : Prop := rTOBoundedUptoRow.holds Try.pinned (OpenSpec.upto rTOBoundedSpec)

/-- 'stagepostlaw15.RTOKarn', WHERE WHAT IT READS IS OF BULK AT MOST 1048576: true; the input reads as it did. -/
def rTOKarnUptoRow : OpenClaim := { program := "ytgbmkoodhmchoaa", sum := "2c8a2a4b3c27de63b2cc51296ddf199c8730d1f210157b7ff89f557648e43ae9", func := "stagepost/stagepostlaw15.RTOKarn", spec := "rTOKarn", apart := false, narrowed := true }
def RTOKarnUptoSaid : Prop := rTOKarnUptoRow.holds Try.pinned (OpenSpec.upto rTOKarnSpec)

/-- 'stagepostlaw15.RTOConverges', WHERE WHAT IT READS IS OF BULK AT MOST 1048576: true; the input reads as it did. -/
def rTOConvergesUptoRow : OpenClaim := { program := "ytgbmkoodhmchoaa", sum := "2c8a2a4b3c27de63b2cc51296ddf199c8730d1f210157b7ff89f557648e43ae9", func := "stagepost/stagepostlaw15.RTOConverges", spec := "rTOConverges", apart := false, narrowed := true }
def RTOConvergesUptoSaid : Prop := rTOConvergesUptoRow.holds Try.pinned (OpenSpec.upto rTOConvergesSpec)

/-- 'stagepostlaw15.RTOSingleTiming', WHERE WHAT IT READS IS OF BULK AT MOST 1048576: true; the input reads as it did. -/
def rTOSingleTimingUptoRow : OpenClaim := { program := "ytgbmkoodhmchoaa", sum := "2c8a2a4b3c27de63b2cc51296ddf199c8730d1f210157b7ff89f557648e43ae9", func := "stagepost/stagepostlaw15.RTOSingleTiming", spec := "rTOSingleTiming", apart := false, narrowed := true }
def RTOSingleTimingUptoSaid : Prop := rTOSingleTimingUptoRow.holds Try.pinned (OpenSpec.upto rTOSingleTimingSpec)

/-- 'stagepostlaw15.RTOTimeShift', WHERE WHAT IT READS IS OF BULK AT MOST 1048576: true; the input reads as it did. -/
def rTOTimeShiftUptoRow : OpenClaim := { program := "ytgbmkoodhmchoaa", sum := "2c8a2a4b3c27de63b2cc51296ddf199c8730d1f210157b7ff89f557648e43ae9", func := "stagepost/stagepostlaw15.RTOTimeShift", spec := "rTOTimeShift", apart := false, narrowed := true }
def RTOTimeShiftUptoSaid : Prop := rTOTimeShiftUptoRow.holds Try.pinned (OpenSpec.upto rTOTimeShiftSpec)

/-- 'stagepostlaw15.RTOSequenceWraps', WHERE WHAT IT READS IS OF BULK AT MOST 1048576: true; the input reads as it did. -/
def rTOSequenceWrapsUptoRow : OpenClaim := { program := "ytgbmkoodhmchoaa", sum := "2c8a2a4b3c27de63b2cc51296ddf199c8730d1f210157b7ff89f557648e43ae9", func := "stagepost/stagepostlaw15.RTOSequenceWraps", spec := "rTOSequenceWraps", unfollowed := true, recurses := true, apart := false, narrowed := true }
def RTOSequenceWrapsUptoSaid : Prop := rTOSequenceWrapsUptoRow.holds Try.pinned (OpenSpec.upto rTOSequenceWrapsSpec)

end Rows
end Go.Proofs.Ytgbmkoodhmchoaa
