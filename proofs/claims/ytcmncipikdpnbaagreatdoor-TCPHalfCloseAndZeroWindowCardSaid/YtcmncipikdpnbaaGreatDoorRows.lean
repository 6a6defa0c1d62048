/-
  NARROWER THAN 'FOR EVERY INPUT', by the rows' own cells (each row's printed sentence says how): TCPDeliversAll: laid · TCPSimultaneousOpen: laid · TCPReplayedSegments: laid · TCPHalfCloseAndZeroWindow: laid · TCPSmallerMSS: laid.
  DERIVED. THE GIVEN ROWS OF THIS SEAT. 5 by the template 'for every input the law returns true; each argument reads behind the call as it read before'; 0 by the template 'total and deterministic' (their statements: YtcmncipikdpnbaaGreatDoorTotals.lean).
  GIVEN WITH THE SEED: the statements are not yours to turn. If you find one false, say at which input.
  Laid BY PROGRAM, IN A SANDBOX (cutbox-rows.mjs): the forced cells as the released guide's own fill.sh prints them over the translation 78fa96a06b71ce03… (all of the seat's roots in one cut). By AI agents, Wed Nov 11 2026. No macro, syntax, notation, axiom, sorry.
-/
import Derived.Test.YtcmncipikdpnbaaGreatDoorChecked
import GoSem.Claim
import GoSem.ClaimJoined
import GoSem.ClaimMapViews
import Derived.JoinedTies
import Derived.KernelRfl
namespace Go.Proofs.YtcmncipikdpnbaaGreatDoor
/- THE CELL 'sum', in the pinned program and in every row, IS THE sha256 OF THE DUMP (.gsa) THAT YtcmncipikdpnbaaGreatDoorProg.lean LOADS. Nothing in Lean hashes anything: it is a label: what it is worth is what the hold of that sum in a sandbox is worth. -/
noncomputable def Tryz.pinned : Pinned := { name := "ytcmncipikdpnbaagreatdoor", sum := "78fa96a06b71ce03cc2460899ef9a103d55d48cc00993f4df249c2fd3e0be6bb", checked := Tryz.checked }
namespace Rows
def none {H : Type} : Left H := { results := [], args := [] }

/- WHAT THE LISTED PACKAGE-LEVEL VARIABLES READ AS WHEN THE CALL BEGINS. Each datum BY PROGRAM (the guide's laid-datum.mjs) off the statement by which the dump's own 'gosem.cut.vars' lays the variable. In a bare row this is a premise. The card (YtcmncipikdpnbaaGreatDoorCards.lean) ties it to the program's text. -/
def laid_stagepost_tcpstate_triples {H : Type} : DataW H := .agg [.agg [.lit (.int .i64 0), .lit (.int .i64 1), .lit (.int .i64 1)], .agg [.lit (.int .i64 0), .lit (.int .i64 2), .lit (.int .i64 2)], .agg [.lit (.int .i64 1), .lit (.int .i64 3), .lit (.int .i64 3)], .agg [.lit (.int .i64 1), .lit (.int .i64 2), .lit (.int .i64 2)], .agg [.lit (.int .i64 1), .lit (.int .i64 5), .lit (.int .i64 0)], .agg [.lit (.int .i64 2), .lit (.int .i64 4), .lit (.int .i64 3)], .agg [.lit (.int .i64 2), .lit (.int .i64 5), .lit (.int .i64 4)], .agg [.lit (.int .i64 2), .lit (.int .i64 6), .lit (.int .i64 6)], .agg [.lit (.int .i64 3), .lit (.int .i64 5), .lit (.int .i64 4)], .agg [.lit (.int .i64 3), .lit (.int .i64 6), .lit (.int .i64 6)], .agg [.lit (.int .i64 4), .lit (.int .i64 7), .lit (.int .i64 5)], .agg [.lit (.int .i64 4), .lit (.int .i64 6), .lit (.int .i64 7)], .agg [.lit (.int .i64 5), .lit (.int .i64 6), .lit (.int .i64 9)], .agg [.lit (.int .i64 6), .lit (.int .i64 5), .lit (.int .i64 8)], .agg [.lit (.int .i64 7), .lit (.int .i64 7), .lit (.int .i64 9)], .agg [.lit (.int .i64 8), .lit (.int .i64 7), .lit (.int .i64 0)]]
def laid_stagepost_congestion_errSize {H : Type} : DataW H := .iface "*errors.errorString" (.ptr (.agg [.lit (.string [115, 101, 103, 109, 101, 110, 116, 32, 115, 105, 122, 101, 32, 111, 117, 116, 32, 111, 102, 32, 114, 97, 110, 103, 101])]))

/-- 'stagepostlaw18.TCPDeliversAll': WHATEVER THE INPUT: true; the input reads as it did. -/
def tCPDeliversAllSpec : ChangeSpec := { name := "tCPDeliversAll", fn := fun _ => fun
  | [d1, d2, d3, d4, d5] => { results := [.lit (.bool true)], args := [d1, d2, d3, d4, d5] }
  | _ => none }
def tCPDeliversAllRow : OpenClaim := { program := "ytcmncipikdpnbaagreatdoor", sum := "78fa96a06b71ce03cc2460899ef9a103d55d48cc00993f4df249c2fd3e0be6bb", func := "stagepost/stagepostlaw18.TCPDeliversAll", spec := "tCPDeliversAll", inPlace := ["internal/reflectlite.TypeOf"], unfollowed := true, recurses := true, named := ["stagepost/congestion.errSize", "stagepost/tcpstate.triples"], apart := false, laid := [("stagepost/tcpstate.triples", laid_stagepost_tcpstate_triples), ("stagepost/congestion.errSize", laid_stagepost_congestion_errSize)] }
def TCPDeliversAllSaid : Prop := tCPDeliversAllRow.holds Tryz.pinned (OpenSpec.ofChange tCPDeliversAllSpec)

/-- ITS FALSE NEIGHBOUR: 'it returns false'. Refute it at one input. -/
def tCPDeliversAllWrong : ChangeSpec := { name := "tCPDeliversAll", fn := fun _ => fun
  | [d1, d2, d3, d4, d5] => { results := [.lit (.bool false)], args := [d1, d2, d3, d4, d5] }
  | _ => none }
def TCPDeliversAllWrongFalsely : Prop := tCPDeliversAllRow.holds Tryz.pinned (OpenSpec.ofChange tCPDeliversAllWrong)

/-- 'stagepostlaw18.TCPSimultaneousOpen': WHATEVER THE INPUT: true; the input reads as it did. -/
def tCPSimultaneousOpenSpec : ChangeSpec := { name := "tCPSimultaneousOpen", fn := fun _ => fun
  | [d1, d2, d3, d4] => { results := [.lit (.bool true)], args := [d1, d2, d3, d4] }
  | _ => none }
def tCPSimultaneousOpenRow : OpenClaim := { program := "ytcmncipikdpnbaagreatdoor", sum := "78fa96a06b71ce03cc2460899ef9a103d55d48cc00993f4df249c2fd3e0be6bb", func := "stagepost/stagepostlaw18.TCPSimultaneousOpen", spec := "tCPSimultaneousOpen", inPlace := ["internal/reflectlite.TypeOf"], unfollowed := true, recurses := true, named := ["stagepost/congestion.errSize", "stagepost/tcpstate.triples"], apart := false, laid := [("stagepost/tcpstate.triples", laid_stagepost_tcpstate_triples), ("stagepost/congestion.errSize", laid_stagepost_congestion_errSize)] }
def TCPSimultaneousOpenSaid : Prop := tCPSimultaneousOpenRow.holds Tryz.pinned (OpenSpec.ofChange tCPSimultaneousOpenSpec)

/-- ITS FALSE NEIGHBOUR: 'it returns false'. Refute it at one input. -/
def tCPSimultaneousOpenWrong : ChangeSpec := { name := "tCPSimultaneousOpen", fn := fun _ => fun
  | [d1, d2, d3, d4] => { results := [.lit (.bool false)], args := [d1, d2, d3, d4] }
  | _ => none }
def TCPSimultaneousOpenWrongFalsely : Prop := tCPSimultaneousOpenRow.holds Tryz.pinned (OpenSpec.ofChange tCPSimultaneousOpenWrong)

/-- 'stagepostlaw18.TCPReplayedSegments': WHATEVER THE INPUT: true; the input reads as it did. -/
def tCPReplayedSegmentsSpec : ChangeSpec := { name := "tCPReplayedSegments", fn := fun _ => fun
  | [d1, d2, d3, d4] => { results := [.lit (.bool true)], args := [d1, d2, d3, d4] }
  | _ => none }
def tCPReplayedSegmentsRow : OpenClaim := { program := "ytcmncipikdpnbaagreatdoor", sum := "78fa96a06b71ce03cc2460899ef9a103d55d48cc00993f4df249c2fd3e0be6bb", func := "stagepost/stagepostlaw18.TCPReplayedSegments", spec := "tCPReplayedSegments", inPlace := ["internal/reflectlite.TypeOf"], unfollowed := true, recurses := true, named := ["stagepost/congestion.errSize", "stagepost/tcpstate.triples"], apart := false, laid := [("stagepost/tcpstate.triples", laid_stagepost_tcpstate_triples), ("stagepost/congestion.errSize", laid_stagepost_congestion_errSize)] }
def TCPReplayedSegmentsSaid : Prop := tCPReplayedSegmentsRow.holds Tryz.pinned (OpenSpec.ofChange tCPReplayedSegmentsSpec)

/-- ITS FALSE NEIGHBOUR: 'it returns false'. Refute it at one input. -/
def tCPReplayedSegmentsWrong : ChangeSpec := { name := "tCPReplayedSegments", fn := fun _ => fun
  | [d1, d2, d3, d4] => { results := [.lit (.bool false)], args := [d1, d2, d3, d4] }
  | _ => none }
def TCPReplayedSegmentsWrongFalsely : Prop := tCPReplayedSegmentsRow.holds Tryz.pinned (OpenSpec.ofChange tCPReplayedSegmentsWrong)

/-- 'stagepostlaw18.TCPHalfCloseAndZeroWindow': WHATEVER THE INPUT: true; the input reads as it did. -/
def tCPHalfCloseAndZeroWindowSpec : ChangeSpec := { name := "tCPHalfCloseAndZeroWindow", fn := fun _ => fun
  | [d1, d2, d3] => { results := [.lit (.bool true)], args := [d1, d2, d3] }
  | _ => none }
def tCPHalfCloseAndZeroWindowRow : OpenClaim := { program := "ytcmncipikdpnbaagreatdoor", sum := "78fa96a06b71ce03cc2460899ef9a103d55d48cc00993f4df249c2fd3e0be6bb", func := "stagepost/stagepostlaw18.TCPHalfCloseAndZeroWindow", spec := "tCPHalfCloseAndZeroWindow", inPlace := ["internal/reflectlite.TypeOf"], unfollowed := true, recurses := true, named := ["stagepost/congestion.errSize", "stagepost/tcpstate.triples"], apart := false, laid := [("stagepost/tcpstate.triples", laid_stagepost_tcpstate_triples), ("stagepost/congestion.errSize", laid_stagepost_congestion_errSize)] }
def TCPHalfCloseAndZeroWindowSaid : Prop := tCPHalfCloseAndZeroWindowRow.holds Tryz.pinned (OpenSpec.ofChange tCPHalfCloseAndZeroWindowSpec)

/-- ITS FALSE NEIGHBOUR: 'it returns false'. Refute it at one input. -/
def tCPHalfCloseAndZeroWindowWrong : ChangeSpec := { name := "tCPHalfCloseAndZeroWindow", fn := fun _ => fun
  | [d1, d2, d3] => { results := [.lit (.bool false)], args := [d1, d2, d3] }
  | _ => none }
def TCPHalfCloseAndZeroWindowWrongFalsely : Prop := tCPHalfCloseAndZeroWindowRow.holds Tryz.pinned (OpenSpec.ofChange tCPHalfCloseAndZeroWindowWrong)

/-- 'stagepostlaw18.TCPSmallerMSS': WHATEVER THE INPUT: true; the input reads as it did. -/
def tCPSmallerMSSSpec : ChangeSpec := { name := "tCPSmallerMSS", fn := fun _ => fun
  | [d1, d2, d3, d4] => { results := [.lit (.bool true)], args := [d1, d2, d3, d4] }
  | _ => none }
def tCPSmallerMSSRow : OpenClaim := { program := "ytcmncipikdpnbaagreatdoor", sum := "78fa96a06b71ce03cc2460899ef9a103d55d48cc00993f4df249c2fd3e0be6bb", func := "stagepost/stagepostlaw18.TCPSmallerMSS", spec := "tCPSmallerMSS", inPlace := ["internal/reflectlite.TypeOf"], unfollowed := true, recurses := true, named := ["stagepost/congestion.errSize", "stagepost/tcpstate.triples"], apart := false, laid := [("stagepost/tcpstate.triples", laid_stagepost_tcpstate_triples), ("stagepost/congestion.errSize", laid_stagepost_congestion_errSize)] }
def TCPSmallerMSSSaid : Prop := tCPSmallerMSSRow.holds Tryz.pinned (OpenSpec.ofChange tCPSmallerMSSSpec)

/-- ITS FALSE NEIGHBOUR: 'it returns false'. Refute it at one input. -/
def tCPSmallerMSSWrong : ChangeSpec := { name := "tCPSmallerMSS", fn := fun _ => fun
  | [d1, d2, d3, d4] => { results := [.lit (.bool false)], args := [d1, d2, d3, d4] }
  | _ => none }
def TCPSmallerMSSWrongFalsely : Prop := tCPSmallerMSSRow.holds Tryz.pinned (OpenSpec.ofChange tCPSmallerMSSWrong)

/- THE SECOND FORM. 'bulk': how many values and letters a reading holds, each counted each time it is reached (what is shared counts as often as it is met; a slice's spare places count too). A statement '..UptoSaid' is the law's where the arguments, and the package variables that the reading takes, are together of bulk at most 1048576: NARROWER than '..Said'. Prove '..Said' where nothing that the law and all that it calls make is longer than what came in: it says more and counts as full. Else prove '..UptoSaid'. A law counts once. -/
mutual
def uptoBulk {H : Type} : DataW H → Nat
  | .lit (.string bytes) => bytes.length + 1
  | .lit _ => 1
  | .nil => 1
  | .ptr d => uptoBulk d + 1
  | .slice elems spare => uptoBulkAll elems + uptoBulkAll spare + 1
  | .agg parts => uptoBulkAll parts + 1
  | .iface _ d => uptoBulk d + 1
  | .map entries => uptoBulkEntries entries + 1
  | .held _ => 1
def uptoBulkAll {H : Type} : List (DataW H) → Nat
  | [] => 0
  | d :: r => uptoBulk d + uptoBulkAll r
def uptoBulkEntries {H : Type} : List (Lit × DataW H) → Nat
  | [] => 0
  | x :: r => uptoBulkEntry x + uptoBulkEntries r
def uptoBulkEntry {H : Type} : Lit × DataW H → Nat
  | (.string bytes, d) => bytes.length + uptoBulk d + 1
  | (_, d) => uptoBulk d + 1
 end
def uptoSmall : (H : Type) → List (DataW H) → Bool := fun _ ds => decide (uptoBulkAll ds ≤ 1048576)
def OpenSpec.upto (s : _root_.Go.ChangeSpec) : _root_.Go.OpenSpec := { _root_.Go.OpenSpec.ofChange s with cond := some uptoSmall }

/-- 'stagepostlaw18.TCPDeliversAll', WHERE WHAT IT READS IS OF BULK AT MOST 1048576: true; the input reads as it did. -/
def tCPDeliversAllUptoRow : OpenClaim := { program := "ytcmncipikdpnbaagreatdoor", sum := "78fa96a06b71ce03cc2460899ef9a103d55d48cc00993f4df249c2fd3e0be6bb", func := "stagepost/stagepostlaw18.TCPDeliversAll", spec := "tCPDeliversAll", inPlace := ["internal/reflectlite.TypeOf"], unfollowed := true, recurses := true, named := ["stagepost/congestion.errSize", "stagepost/tcpstate.triples"], apart := false, laid := [("stagepost/tcpstate.triples", laid_stagepost_tcpstate_triples), ("stagepost/congestion.errSize", laid_stagepost_congestion_errSize)], narrowed := true }
def TCPDeliversAllUptoSaid : Prop := tCPDeliversAllUptoRow.holds Tryz.pinned (OpenSpec.upto tCPDeliversAllSpec)

/-- 'stagepostlaw18.TCPSimultaneousOpen', WHERE WHAT IT READS IS OF BULK AT MOST 1048576: true; the input reads as it did. -/
def tCPSimultaneousOpenUptoRow : OpenClaim := { program := "ytcmncipikdpnbaagreatdoor", sum := "78fa96a06b71ce03cc2460899ef9a103d55d48cc00993f4df249c2fd3e0be6bb", func := "stagepost/stagepostlaw18.TCPSimultaneousOpen", spec := "tCPSimultaneousOpen", inPlace := ["internal/reflectlite.TypeOf"], unfollowed := true, recurses := true, named := ["stagepost/congestion.errSize", "stagepost/tcpstate.triples"], apart := false, laid := [("stagepost/tcpstate.triples", laid_stagepost_tcpstate_triples), ("stagepost/congestion.errSize", laid_stagepost_congestion_errSize)], narrowed := true }
def TCPSimultaneousOpenUptoSaid : Prop := tCPSimultaneousOpenUptoRow.holds Tryz.pinned (OpenSpec.upto tCPSimultaneousOpenSpec)

/-- 'stagepostlaw18.TCPReplayedSegments', WHERE WHAT IT READS IS OF BULK AT MOST 1048576: true; the input reads as it did. -/
def tCPReplayedSegmentsUptoRow : OpenClaim := { program := "ytcmncipikdpnbaagreatdoor", sum := "78fa96a06b71ce03cc2460899ef9a103d55d48cc00993f4df249c2fd3e0be6bb", func := "stagepost/stagepostlaw18.TCPReplayedSegments", spec := "tCPReplayedSegments", inPlace := ["internal/reflectlite.TypeOf"], unfollowed := true, recurses := true, named := ["stagepost/congestion.errSize", "stagepost/tcpstate.triples"], apart := false, laid := [("stagepost/tcpstate.triples", laid_stagepost_tcpstate_triples), ("stagepost/congestion.errSize", laid_stagepost_congestion_errSize)], narrowed := true }
def TCPReplayedSegmentsUptoSaid : Prop := tCPReplayedSegmentsUptoRow.holds Tryz.pinned (OpenSpec.upto tCPReplayedSegmentsSpec)

/-- 'stagepostlaw18.TCPHalfCloseAndZeroWindow', WHERE WHAT IT READS IS OF BULK AT MOST 1048576: true; the input reads as it did. -/
def tCPHalfCloseAndZeroWindowUptoRow : OpenClaim := { program := "ytcmncipikdpnbaagreatdoor", sum := "78fa96a06b71ce03cc2460899ef9a103d55d48cc00993f4df249c2fd3e0be6bb", func := "stagepost/stagepostlaw18.TCPHalfCloseAndZeroWindow", spec := "tCPHalfCloseAndZeroWindow", inPlace := ["internal/reflectlite.TypeOf"], unfollowed := true, recurses := true, named := ["stagepost/congestion.errSize", "stagepost/tcpstate.triples"], apart := false, laid := [("stagepost/tcpstate.triples", laid_stagepost_tcpstate_triples), ("stagepost/congestion.errSize", laid_stagepost_congestion_errSize)], narrowed := true }
def TCPHalfCloseAndZeroWindowUptoSaid : Prop := tCPHalfCloseAndZeroWindowUptoRow.holds Tryz.pinned (OpenSpec.upto tCPHalfCloseAndZeroWindowSpec)

/-- 'stagepostlaw18.TCPSmallerMSS', WHERE WHAT IT READS IS OF BULK AT MOST 1048576: true; the input reads as it did. -/
def tCPSmallerMSSUptoRow : OpenClaim := { program := "ytcmncipikdpnbaagreatdoor", sum := "78fa96a06b71ce03cc2460899ef9a103d55d48cc00993f4df249c2fd3e0be6bb", func := "stagepost/stagepostlaw18.TCPSmallerMSS", spec := "tCPSmallerMSS", inPlace := ["internal/reflectlite.TypeOf"], unfollowed := true, recurses := true, named := ["stagepost/congestion.errSize", "stagepost/tcpstate.triples"], apart := false, laid := [("stagepost/tcpstate.triples", laid_stagepost_tcpstate_triples), ("stagepost/congestion.errSize", laid_stagepost_congestion_errSize)], narrowed := true }
def TCPSmallerMSSUptoSaid : Prop := tCPSmallerMSSUptoRow.holds Tryz.pinned (OpenSpec.upto tCPSmallerMSSSpec)

end Rows
end Go.Proofs.YtcmncipikdpnbaaGreatDoor
