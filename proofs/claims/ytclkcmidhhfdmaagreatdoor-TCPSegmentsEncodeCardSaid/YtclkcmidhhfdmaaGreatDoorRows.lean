/-
  NARROWER THAN 'FOR EVERY INPUT', by the rows' own cells (each row's printed sentence says how): TCPDeliversPrefix: laid · TCPSequenceShift: laid · TCPRespectsLimits: laid · TCPResetReplies: laid · TCPSimultaneousOpen: laid · TCPSynRetransmission: laid · TCPReplayedSegments: laid · TCPStateTransitions: laid · TCPBlindSegments: laid · TCPHalfCloseAndZeroWindow: laid · TCPSmallerMSS: laid · TCPSegmentsEncode: laid.
  DERIVED. THE GIVEN ROWS OF THIS SEAT. 12 by the template 'for every input the law returns true; each argument reads behind the call as it read before'; 0 by the template 'total and deterministic' (their statements: YtclkcmidhhfdmaaGreatDoorTotals.lean).
  GIVEN WITH THE SEED: the statements are not yours to turn. If you find one false, say at which input.
  Laid BY PROGRAM, IN A SANDBOX (cutbox-rows.mjs): the forced cells as the released guide's own fill.sh prints them over the translation c8e5647d7b17e43e… (all of the seat's roots in one cut). By AI agents, Wed Nov 11 2026. No macro, syntax, notation, axiom, sorry.
-/
import Derived.Test.YtclkcmidhhfdmaaGreatDoorChecked
import GoSem.Claim
import GoSem.ClaimJoined
import GoSem.ClaimMapViews
import Derived.JoinedTies
import Derived.KernelRfl
namespace Go.Proofs.YtclkcmidhhfdmaaGreatDoor
/- THE CELL 'sum', in the pinned program and in every row, IS THE sha256 OF THE DUMP (.gsa) THAT YtclkcmidhhfdmaaGreatDoorProg.lean LOADS. Nothing in Lean hashes anything: it is a label: what it is worth is what the hold of that sum in a sandbox is worth. -/
noncomputable def Tryz.pinned : Pinned := { name := "ytclkcmidhhfdmaagreatdoor", sum := "c8e5647d7b17e43e1c2d2c87cdbce735f76e9a7c34852899c1efde0bb834b5de", checked := Tryz.checked }
namespace Rows
def none {H : Type} : Left H := { results := [], args := [] }

/- WHAT THE LISTED PACKAGE-LEVEL VARIABLES READ AS WHEN THE CALL BEGINS. Each datum BY PROGRAM (the guide's laid-datum.mjs) off the statement by which the dump's own 'gosem.cut.vars' lays the variable. In a bare row this is a premise. The card (YtclkcmidhhfdmaaGreatDoorCards.lean) ties it to the program's text. -/
def laid_stagepost_tcpstate_triples {H : Type} : DataW H := .agg [.agg [.lit (.int .i64 0), .lit (.int .i64 1), .lit (.int .i64 1)], .agg [.lit (.int .i64 0), .lit (.int .i64 2), .lit (.int .i64 2)], .agg [.lit (.int .i64 1), .lit (.int .i64 3), .lit (.int .i64 3)], .agg [.lit (.int .i64 1), .lit (.int .i64 2), .lit (.int .i64 2)], .agg [.lit (.int .i64 1), .lit (.int .i64 5), .lit (.int .i64 0)], .agg [.lit (.int .i64 2), .lit (.int .i64 4), .lit (.int .i64 3)], .agg [.lit (.int .i64 2), .lit (.int .i64 5), .lit (.int .i64 4)], .agg [.lit (.int .i64 2), .lit (.int .i64 6), .lit (.int .i64 6)], .agg [.lit (.int .i64 3), .lit (.int .i64 5), .lit (.int .i64 4)], .agg [.lit (.int .i64 3), .lit (.int .i64 6), .lit (.int .i64 6)], .agg [.lit (.int .i64 4), .lit (.int .i64 7), .lit (.int .i64 5)], .agg [.lit (.int .i64 4), .lit (.int .i64 6), .lit (.int .i64 7)], .agg [.lit (.int .i64 5), .lit (.int .i64 6), .lit (.int .i64 9)], .agg [.lit (.int .i64 6), .lit (.int .i64 5), .lit (.int .i64 8)], .agg [.lit (.int .i64 7), .lit (.int .i64 7), .lit (.int .i64 9)], .agg [.lit (.int .i64 8), .lit (.int .i64 7), .lit (.int .i64 0)]]
def laid_stagepost_congestion_errSize {H : Type} : DataW H := .iface "*errors.errorString" (.ptr (.agg [.lit (.string [115, 101, 103, 109, 101, 110, 116, 32, 115, 105, 122, 101, 32, 111, 117, 116, 32, 111, 102, 32, 114, 97, 110, 103, 101])]))

/-- 'stagepostlaw18.TCPDeliversPrefix': WHATEVER THE INPUT: true; the input reads as it did. -/
def tCPDeliversPrefixSpec : ChangeSpec := { name := "tCPDeliversPrefix", fn := fun _ => fun
  | [d1, d2, d3] => { results := [.lit (.bool true)], args := [d1, d2, d3] }
  | _ => none }
def tCPDeliversPrefixRow : OpenClaim := { program := "ytclkcmidhhfdmaagreatdoor", sum := "c8e5647d7b17e43e1c2d2c87cdbce735f76e9a7c34852899c1efde0bb834b5de", func := "stagepost/stagepostlaw18.TCPDeliversPrefix", spec := "tCPDeliversPrefix", inPlace := ["internal/reflectlite.TypeOf"], unfollowed := true, recurses := true, named := ["stagepost/congestion.errSize", "stagepost/tcpstate.triples"], apart := false, laid := [("stagepost/tcpstate.triples", laid_stagepost_tcpstate_triples), ("stagepost/congestion.errSize", laid_stagepost_congestion_errSize)] }
def TCPDeliversPrefixSaid : Prop := tCPDeliversPrefixRow.holds Tryz.pinned (OpenSpec.ofChange tCPDeliversPrefixSpec)

/-- ITS FALSE NEIGHBOUR: 'it returns false'. Refute it at one input. -/
def tCPDeliversPrefixWrong : ChangeSpec := { name := "tCPDeliversPrefix", fn := fun _ => fun
  | [d1, d2, d3] => { results := [.lit (.bool false)], args := [d1, d2, d3] }
  | _ => none }
def TCPDeliversPrefixWrongFalsely : Prop := tCPDeliversPrefixRow.holds Tryz.pinned (OpenSpec.ofChange tCPDeliversPrefixWrong)

/-- 'stagepostlaw18.TCPSequenceShift': WHATEVER THE INPUT: true; the input reads as it did. -/
def tCPSequenceShiftSpec : ChangeSpec := { name := "tCPSequenceShift", fn := fun _ => fun
  | [d1, d2, d3, d4, d5] => { results := [.lit (.bool true)], args := [d1, d2, d3, d4, d5] }
  | _ => none }
def tCPSequenceShiftRow : OpenClaim := { program := "ytclkcmidhhfdmaagreatdoor", sum := "c8e5647d7b17e43e1c2d2c87cdbce735f76e9a7c34852899c1efde0bb834b5de", func := "stagepost/stagepostlaw18.TCPSequenceShift", spec := "tCPSequenceShift", inPlace := ["internal/reflectlite.TypeOf"], unfollowed := true, recurses := true, named := ["stagepost/congestion.errSize", "stagepost/tcpstate.triples"], apart := false, laid := [("stagepost/tcpstate.triples", laid_stagepost_tcpstate_triples), ("stagepost/congestion.errSize", laid_stagepost_congestion_errSize)] }
def TCPSequenceShiftSaid : Prop := tCPSequenceShiftRow.holds Tryz.pinned (OpenSpec.ofChange tCPSequenceShiftSpec)

/-- ITS FALSE NEIGHBOUR: 'it returns false'. Refute it at one input. -/
def tCPSequenceShiftWrong : ChangeSpec := { name := "tCPSequenceShift", fn := fun _ => fun
  | [d1, d2, d3, d4, d5] => { results := [.lit (.bool false)], args := [d1, d2, d3, d4, d5] }
  | _ => none }
def TCPSequenceShiftWrongFalsely : Prop := tCPSequenceShiftRow.holds Tryz.pinned (OpenSpec.ofChange tCPSequenceShiftWrong)

/-- 'stagepostlaw18.TCPRespectsLimits': WHATEVER THE INPUT: true; the input reads as it did. -/
def tCPRespectsLimitsSpec : ChangeSpec := { name := "tCPRespectsLimits", fn := fun _ => fun
  | [d1, d2, d3] => { results := [.lit (.bool true)], args := [d1, d2, d3] }
  | _ => none }
def tCPRespectsLimitsRow : OpenClaim := { program := "ytclkcmidhhfdmaagreatdoor", sum := "c8e5647d7b17e43e1c2d2c87cdbce735f76e9a7c34852899c1efde0bb834b5de", func := "stagepost/stagepostlaw18.TCPRespectsLimits", spec := "tCPRespectsLimits", inPlace := ["internal/reflectlite.TypeOf"], unfollowed := true, recurses := true, named := ["stagepost/congestion.errSize", "stagepost/tcpstate.triples"], apart := false, laid := [("stagepost/tcpstate.triples", laid_stagepost_tcpstate_triples), ("stagepost/congestion.errSize", laid_stagepost_congestion_errSize)] }
def TCPRespectsLimitsSaid : Prop := tCPRespectsLimitsRow.holds Tryz.pinned (OpenSpec.ofChange tCPRespectsLimitsSpec)

/-- ITS FALSE NEIGHBOUR: 'it returns false'. Refute it at one input. -/
def tCPRespectsLimitsWrong : ChangeSpec := { name := "tCPRespectsLimits", fn := fun _ => fun
  | [d1, d2, d3] => { results := [.lit (.bool false)], args := [d1, d2, d3] }
  | _ => none }
def TCPRespectsLimitsWrongFalsely : Prop := tCPRespectsLimitsRow.holds Tryz.pinned (OpenSpec.ofChange tCPRespectsLimitsWrong)

/-- 'stagepostlaw18.TCPResetReplies': WHATEVER THE INPUT: true; the input reads as it did. -/
def tCPResetRepliesSpec : ChangeSpec := { name := "tCPResetReplies", fn := fun _ => fun
  | [d1, d2, d3] => { results := [.lit (.bool true)], args := [d1, d2, d3] }
  | _ => none }
def tCPResetRepliesRow : OpenClaim := { program := "ytclkcmidhhfdmaagreatdoor", sum := "c8e5647d7b17e43e1c2d2c87cdbce735f76e9a7c34852899c1efde0bb834b5de", func := "stagepost/stagepostlaw18.TCPResetReplies", spec := "tCPResetReplies", inPlace := ["internal/reflectlite.TypeOf"], unfollowed := true, recurses := true, named := ["stagepost/congestion.errSize", "stagepost/tcpstate.triples"], apart := false, laid := [("stagepost/tcpstate.triples", laid_stagepost_tcpstate_triples), ("stagepost/congestion.errSize", laid_stagepost_congestion_errSize)] }
def TCPResetRepliesSaid : Prop := tCPResetRepliesRow.holds Tryz.pinned (OpenSpec.ofChange tCPResetRepliesSpec)

/-- ITS FALSE NEIGHBOUR: 'it returns false'. Refute it at one input. -/
def tCPResetRepliesWrong : ChangeSpec := { name := "tCPResetReplies", fn := fun _ => fun
  | [d1, d2, d3] => { results := [.lit (.bool false)], args := [d1, d2, d3] }
  | _ => none }
def TCPResetRepliesWrongFalsely : Prop := tCPResetRepliesRow.holds Tryz.pinned (OpenSpec.ofChange tCPResetRepliesWrong)

/-- 'stagepostlaw18.TCPSimultaneousOpen': WHATEVER THE INPUT: true; the input reads as it did. -/
def tCPSimultaneousOpenSpec : ChangeSpec := { name := "tCPSimultaneousOpen", fn := fun _ => fun
  | [d1, d2, d3, d4] => { results := [.lit (.bool true)], args := [d1, d2, d3, d4] }
  | _ => none }
def tCPSimultaneousOpenRow : OpenClaim := { program := "ytclkcmidhhfdmaagreatdoor", sum := "c8e5647d7b17e43e1c2d2c87cdbce735f76e9a7c34852899c1efde0bb834b5de", func := "stagepost/stagepostlaw18.TCPSimultaneousOpen", spec := "tCPSimultaneousOpen", inPlace := ["internal/reflectlite.TypeOf"], unfollowed := true, recurses := true, named := ["stagepost/congestion.errSize", "stagepost/tcpstate.triples"], apart := false, laid := [("stagepost/tcpstate.triples", laid_stagepost_tcpstate_triples), ("stagepost/congestion.errSize", laid_stagepost_congestion_errSize)] }
def TCPSimultaneousOpenSaid : Prop := tCPSimultaneousOpenRow.holds Tryz.pinned (OpenSpec.ofChange tCPSimultaneousOpenSpec)

/-- ITS FALSE NEIGHBOUR: 'it returns false'. Refute it at one input. -/
def tCPSimultaneousOpenWrong : ChangeSpec := { name := "tCPSimultaneousOpen", fn := fun _ => fun
  | [d1, d2, d3, d4] => { results := [.lit (.bool false)], args := [d1, d2, d3, d4] }
  | _ => none }
def TCPSimultaneousOpenWrongFalsely : Prop := tCPSimultaneousOpenRow.holds Tryz.pinned (OpenSpec.ofChange tCPSimultaneousOpenWrong)

/-- 'stagepostlaw18.TCPSynRetransmission': WHATEVER THE INPUT: true; the input reads as it did. -/
def tCPSynRetransmissionSpec : ChangeSpec := { name := "tCPSynRetransmission", fn := fun _ => fun
  | [d] => { results := [.lit (.bool true)], args := [d] }
  | _ => none }
def tCPSynRetransmissionRow : OpenClaim := { program := "ytclkcmidhhfdmaagreatdoor", sum := "c8e5647d7b17e43e1c2d2c87cdbce735f76e9a7c34852899c1efde0bb834b5de", func := "stagepost/stagepostlaw18.TCPSynRetransmission", spec := "tCPSynRetransmission", inPlace := ["internal/reflectlite.TypeOf"], unfollowed := true, recurses := true, named := ["stagepost/congestion.errSize", "stagepost/tcpstate.triples"], apart := false, laid := [("stagepost/tcpstate.triples", laid_stagepost_tcpstate_triples), ("stagepost/congestion.errSize", laid_stagepost_congestion_errSize)] }
def TCPSynRetransmissionSaid : Prop := tCPSynRetransmissionRow.holds Tryz.pinned (OpenSpec.ofChange tCPSynRetransmissionSpec)

/-- ITS FALSE NEIGHBOUR: 'it returns false'. Refute it at one input. -/
def tCPSynRetransmissionWrong : ChangeSpec := { name := "tCPSynRetransmission", fn := fun _ => fun
  | [d] => { results := [.lit (.bool false)], args := [d] }
  | _ => none }
def TCPSynRetransmissionWrongFalsely : Prop := tCPSynRetransmissionRow.holds Tryz.pinned (OpenSpec.ofChange tCPSynRetransmissionWrong)

/-- 'stagepostlaw18.TCPReplayedSegments': WHATEVER THE INPUT: true; the input reads as it did. -/
def tCPReplayedSegmentsSpec : ChangeSpec := { name := "tCPReplayedSegments", fn := fun _ => fun
  | [d1, d2, d3, d4] => { results := [.lit (.bool true)], args := [d1, d2, d3, d4] }
  | _ => none }
def tCPReplayedSegmentsRow : OpenClaim := { program := "ytclkcmidhhfdmaagreatdoor", sum := "c8e5647d7b17e43e1c2d2c87cdbce735f76e9a7c34852899c1efde0bb834b5de", func := "stagepost/stagepostlaw18.TCPReplayedSegments", spec := "tCPReplayedSegments", inPlace := ["internal/reflectlite.TypeOf"], unfollowed := true, recurses := true, named := ["stagepost/congestion.errSize", "stagepost/tcpstate.triples"], apart := false, laid := [("stagepost/tcpstate.triples", laid_stagepost_tcpstate_triples), ("stagepost/congestion.errSize", laid_stagepost_congestion_errSize)] }
def TCPReplayedSegmentsSaid : Prop := tCPReplayedSegmentsRow.holds Tryz.pinned (OpenSpec.ofChange tCPReplayedSegmentsSpec)

/-- ITS FALSE NEIGHBOUR: 'it returns false'. Refute it at one input. -/
def tCPReplayedSegmentsWrong : ChangeSpec := { name := "tCPReplayedSegments", fn := fun _ => fun
  | [d1, d2, d3, d4] => { results := [.lit (.bool false)], args := [d1, d2, d3, d4] }
  | _ => none }
def TCPReplayedSegmentsWrongFalsely : Prop := tCPReplayedSegmentsRow.holds Tryz.pinned (OpenSpec.ofChange tCPReplayedSegmentsWrong)

/-- 'stagepostlaw18.TCPStateTransitions': WHATEVER THE INPUT: true; the input reads as it did. -/
def tCPStateTransitionsSpec : ChangeSpec := { name := "tCPStateTransitions", fn := fun _ => fun
  | [d1, d2, d3] => { results := [.lit (.bool true)], args := [d1, d2, d3] }
  | _ => none }
def tCPStateTransitionsRow : OpenClaim := { program := "ytclkcmidhhfdmaagreatdoor", sum := "c8e5647d7b17e43e1c2d2c87cdbce735f76e9a7c34852899c1efde0bb834b5de", func := "stagepost/stagepostlaw18.TCPStateTransitions", spec := "tCPStateTransitions", inPlace := ["internal/reflectlite.TypeOf"], unfollowed := true, recurses := true, named := ["stagepost/congestion.errSize", "stagepost/tcpstate.triples"], apart := false, laid := [("stagepost/tcpstate.triples", laid_stagepost_tcpstate_triples), ("stagepost/congestion.errSize", laid_stagepost_congestion_errSize)] }
def TCPStateTransitionsSaid : Prop := tCPStateTransitionsRow.holds Tryz.pinned (OpenSpec.ofChange tCPStateTransitionsSpec)

/-- ITS FALSE NEIGHBOUR: 'it returns false'. Refute it at one input. -/
def tCPStateTransitionsWrong : ChangeSpec := { name := "tCPStateTransitions", fn := fun _ => fun
  | [d1, d2, d3] => { results := [.lit (.bool false)], args := [d1, d2, d3] }
  | _ => none }
def TCPStateTransitionsWrongFalsely : Prop := tCPStateTransitionsRow.holds Tryz.pinned (OpenSpec.ofChange tCPStateTransitionsWrong)

/-- 'stagepostlaw18.TCPBlindSegments': WHATEVER THE INPUT: true; the input reads as it did. -/
def tCPBlindSegmentsSpec : ChangeSpec := { name := "tCPBlindSegments", fn := fun _ => fun
  | [d1, d2, d3, d4] => { results := [.lit (.bool true)], args := [d1, d2, d3, d4] }
  | _ => none }
def tCPBlindSegmentsRow : OpenClaim := { program := "ytclkcmidhhfdmaagreatdoor", sum := "c8e5647d7b17e43e1c2d2c87cdbce735f76e9a7c34852899c1efde0bb834b5de", func := "stagepost/stagepostlaw18.TCPBlindSegments", spec := "tCPBlindSegments", inPlace := ["internal/reflectlite.TypeOf"], unfollowed := true, recurses := true, named := ["stagepost/congestion.errSize", "stagepost/tcpstate.triples"], apart := false, laid := [("stagepost/tcpstate.triples", laid_stagepost_tcpstate_triples), ("stagepost/congestion.errSize", laid_stagepost_congestion_errSize)] }
def TCPBlindSegmentsSaid : Prop := tCPBlindSegmentsRow.holds Tryz.pinned (OpenSpec.ofChange tCPBlindSegmentsSpec)

/-- ITS FALSE NEIGHBOUR: 'it returns false'. Refute it at one input. -/
def tCPBlindSegmentsWrong : ChangeSpec := { name := "tCPBlindSegments", fn := fun _ => fun
  | [d1, d2, d3, d4] => { results := [.lit (.bool false)], args := [d1, d2, d3, d4] }
  | _ => none }
def TCPBlindSegmentsWrongFalsely : Prop := tCPBlindSegmentsRow.holds Tryz.pinned (OpenSpec.ofChange tCPBlindSegmentsWrong)

/-- 'stagepostlaw18.TCPHalfCloseAndZeroWindow': WHATEVER THE INPUT: true; the input reads as it did. -/
def tCPHalfCloseAndZeroWindowSpec : ChangeSpec := { name := "tCPHalfCloseAndZeroWindow", fn := fun _ => fun
  | [d1, d2, d3] => { results := [.lit (.bool true)], args := [d1, d2, d3] }
  | _ => none }
def tCPHalfCloseAndZeroWindowRow : OpenClaim := { program := "ytclkcmidhhfdmaagreatdoor", sum := "c8e5647d7b17e43e1c2d2c87cdbce735f76e9a7c34852899c1efde0bb834b5de", func := "stagepost/stagepostlaw18.TCPHalfCloseAndZeroWindow", spec := "tCPHalfCloseAndZeroWindow", inPlace := ["internal/reflectlite.TypeOf"], unfollowed := true, recurses := true, named := ["stagepost/congestion.errSize", "stagepost/tcpstate.triples"], apart := false, laid := [("stagepost/tcpstate.triples", laid_stagepost_tcpstate_triples), ("stagepost/congestion.errSize", laid_stagepost_congestion_errSize)] }
def TCPHalfCloseAndZeroWindowSaid : Prop := tCPHalfCloseAndZeroWindowRow.holds Tryz.pinned (OpenSpec.ofChange tCPHalfCloseAndZeroWindowSpec)

/-- ITS FALSE NEIGHBOUR: 'it returns false'. Refute it at one input. -/
def tCPHalfCloseAndZeroWindowWrong : ChangeSpec := { name := "tCPHalfCloseAndZeroWindow", fn := fun _ => fun
  | [d1, d2, d3] => { results := [.lit (.bool false)], args := [d1, d2, d3] }
  | _ => none }
def TCPHalfCloseAndZeroWindowWrongFalsely : Prop := tCPHalfCloseAndZeroWindowRow.holds Tryz.pinned (OpenSpec.ofChange tCPHalfCloseAndZeroWindowWrong)

/-- 'stagepostlaw18.TCPSmallerMSS': WHATEVER THE INPUT: true; the input reads as it did. -/
def tCPSmallerMSSSpec : ChangeSpec := { name := "tCPSmallerMSS", fn := fun _ => fun
  | [d1, d2, d3, d4] => { results := [.lit (.bool true)], args := [d1, d2, d3, d4] }
  | _ => none }
def tCPSmallerMSSRow : OpenClaim := { program := "ytclkcmidhhfdmaagreatdoor", sum := "c8e5647d7b17e43e1c2d2c87cdbce735f76e9a7c34852899c1efde0bb834b5de", func := "stagepost/stagepostlaw18.TCPSmallerMSS", spec := "tCPSmallerMSS", inPlace := ["internal/reflectlite.TypeOf"], unfollowed := true, recurses := true, named := ["stagepost/congestion.errSize", "stagepost/tcpstate.triples"], apart := false, laid := [("stagepost/tcpstate.triples", laid_stagepost_tcpstate_triples), ("stagepost/congestion.errSize", laid_stagepost_congestion_errSize)] }
def TCPSmallerMSSSaid : Prop := tCPSmallerMSSRow.holds Tryz.pinned (OpenSpec.ofChange tCPSmallerMSSSpec)

/-- ITS FALSE NEIGHBOUR: 'it returns false'. Refute it at one input. -/
def tCPSmallerMSSWrong : ChangeSpec := { name := "tCPSmallerMSS", fn := fun _ => fun
  | [d1, d2, d3, d4] => { results := [.lit (.bool false)], args := [d1, d2, d3, d4] }
  | _ => none }
def TCPSmallerMSSWrongFalsely : Prop := tCPSmallerMSSRow.holds Tryz.pinned (OpenSpec.ofChange tCPSmallerMSSWrong)

/-- 'stagepostlaw18.TCPSegmentsEncode': WHATEVER THE INPUT: true; the input reads as it did. -/
def tCPSegmentsEncodeSpec : ChangeSpec := { name := "tCPSegmentsEncode", fn := fun _ => fun
  | [d1, d2, d3, d4, d5] => { results := [.lit (.bool true)], args := [d1, d2, d3, d4, d5] }
  | _ => none }
def tCPSegmentsEncodeRow : OpenClaim := { program := "ytclkcmidhhfdmaagreatdoor", sum := "c8e5647d7b17e43e1c2d2c87cdbce735f76e9a7c34852899c1efde0bb834b5de", func := "stagepost/stagepostlaw18.TCPSegmentsEncode", spec := "tCPSegmentsEncode", inPlace := ["internal/reflectlite.TypeOf", "internal/abi.NoEscape"], unfollowed := true, recurses := true, named := ["stagepost/congestion.errSize", "stagepost/tcpstate.triples"], apart := false, laid := [("stagepost/tcpstate.triples", laid_stagepost_tcpstate_triples), ("stagepost/congestion.errSize", laid_stagepost_congestion_errSize)] }
def TCPSegmentsEncodeSaid : Prop := tCPSegmentsEncodeRow.holds Tryz.pinned (OpenSpec.ofChange tCPSegmentsEncodeSpec)

/-- ITS FALSE NEIGHBOUR: 'it returns false'. Refute it at one input. -/
def tCPSegmentsEncodeWrong : ChangeSpec := { name := "tCPSegmentsEncode", fn := fun _ => fun
  | [d1, d2, d3, d4, d5] => { results := [.lit (.bool false)], args := [d1, d2, d3, d4, d5] }
  | _ => none }
def TCPSegmentsEncodeWrongFalsely : Prop := tCPSegmentsEncodeRow.holds Tryz.pinned (OpenSpec.ofChange tCPSegmentsEncodeWrong)

/- THE SECOND FORM. 'bulk': how many values and letters a reading holds, each counted each time it is reached (what is shared counts as often as it is met; a slice's spare places count too). A statement '..UptoSaid' is the law's where the arguments, and the package variables that the reading takes, are together of bulk at most 1048576: NARROWER than '..Said'. Prove '..Said' where nothing that the law and all that it calls make is longer than what came in: it says more and counts as full. Else prove '..UptoSaid'. A law counts once. -/
mutual
def uptoBulk {H : Type} : DataW H → Nat
  | .lit (.string bytes) => bytes.length + 1
  | .lit _ => 1
  | .nil => 1
  | .ptr d => uptoBulk d + 1
  | .slice elems spare => uptoBulkAll elems + uptoBulkAll spare + 1
  | .agg parts => uptoBulkAll parts + 1
  | .iface _ d => uptoBulk d + 1
  | .map entries => uptoBulkEntries entries + 1
  | .held _ => 1
def uptoBulkAll {H : Type} : List (DataW H) → Nat
  | [] => 0
  | d :: r => uptoBulk d + uptoBulkAll r
def uptoBulkEntries {H : Type} : List (Lit × DataW H) → Nat
  | [] => 0
  | x :: r => uptoBulkEntry x + uptoBulkEntries r
def uptoBulkEntry {H : Type} : Lit × DataW H → Nat
  | (.string bytes, d) => bytes.length + uptoBulk d + 1
  | (_, d) => uptoBulk d + 1
 end
def uptoSmall : (H : Type) → List (DataW H) → Bool := fun _ ds => decide (uptoBulkAll ds ≤ 1048576)
def OpenSpec.upto (s : _root_.Go.ChangeSpec) : _root_.Go.OpenSpec := { _root_.Go.OpenSpec.ofChange s with cond := some uptoSmall }

/-- 'stagepostlaw18.TCPDeliversPrefix', WHERE WHAT IT READS IS OF BULK AT MOST 1048576: true; the input reads as it did. -/
def tCPDeliversPrefixUptoRow : OpenClaim := { program := "ytclkcmidhhfdmaagreatdoor", sum := "c8e5647d7b17e43e1c2d2c87cdbce735f76e9a7c34852899c1efde0bb834b5de", func := "stagepost/stagepostlaw18.TCPDeliversPrefix", spec := "tCPDeliversPrefix", inPlace := ["internal/reflectlite.TypeOf"], unfollowed := true, recurses := true, named := ["stagepost/congestion.errSize", "stagepost/tcpstate.triples"], apart := false, laid := [("stagepost/tcpstate.triples", laid_stagepost_tcpstate_triples), ("stagepost/congestion.errSize", laid_stagepost_congestion_errSize)], narrowed := true }
def TCPDeliversPrefixUptoSaid : Prop := tCPDeliversPrefixUptoRow.holds Tryz.pinned (OpenSpec.upto tCPDeliversPrefixSpec)

/-- 'stagepostlaw18.TCPSequenceShift', WHERE WHAT IT READS IS OF BULK AT MOST 1048576: true; the input reads as it did. -/
def tCPSequenceShiftUptoRow : OpenClaim := { program := "ytclkcmidhhfdmaagreatdoor", sum := "c8e5647d7b17e43e1c2d2c87cdbce735f76e9a7c34852899c1efde0bb834b5de", func := "stagepost/stagepostlaw18.TCPSequenceShift", spec := "tCPSequenceShift", inPlace := ["internal/reflectlite.TypeOf"], unfollowed := true, recurses := true, named := ["stagepost/congestion.errSize", "stagepost/tcpstate.triples"], apart := false, laid := [("stagepost/tcpstate.triples", laid_stagepost_tcpstate_triples), ("stagepost/congestion.errSize", laid_stagepost_congestion_errSize)], narrowed := true }
def TCPSequenceShiftUptoSaid : Prop := tCPSequenceShiftUptoRow.holds Tryz.pinned (OpenSpec.upto tCPSequenceShiftSpec)

/-- 'stagepostlaw18.TCPRespectsLimits', WHERE WHAT IT READS IS OF BULK AT MOST 1048576: true; the input reads as it did. -/
def tCPRespectsLimitsUptoRow : OpenClaim := { program := "ytclkcmidhhfdmaagreatdoor", sum := "c8e5647d7b17e43e1c2d2c87cdbce735f76e9a7c34852899c1efde0bb834b5de", func := "stagepost/stagepostlaw18.TCPRespectsLimits", spec := "tCPRespectsLimits", inPlace := ["internal/reflectlite.TypeOf"], unfollowed := true, recurses := true, named := ["stagepost/congestion.errSize", "stagepost/tcpstate.triples"], apart := false, laid := [("stagepost/tcpstate.triples", laid_stagepost_tcpstate_triples), ("stagepost/congestion.errSize", laid_stagepost_congestion_errSize)], narrowed := true }
def TCPRespectsLimitsUptoSaid : Prop := tCPRespectsLimitsUptoRow.holds Tryz.pinned (OpenSpec.upto tCPRespectsLimitsSpec)

/-- 'stagepostlaw18.TCPResetReplies', WHERE WHAT IT READS IS OF BULK AT MOST 1048576: true; the input reads as it did. -/
def tCPResetRepliesUptoRow : OpenClaim := { program := "ytclkcmidhhfdmaagreatdoor", sum := "c8e5647d7b17e43e1c2d2c87cdbce735f76e9a7c34852899c1efde0bb834b5de", func := "stagepost/stagepostlaw18.TCPResetReplies", spec := "tCPResetReplies", inPlace := ["internal/reflectlite.TypeOf"], unfollowed := true, recurses := true, named := ["stagepost/congestion.errSize", "stagepost/tcpstate.triples"], apart := false, laid := [("stagepost/tcpstate.triples", laid_stagepost_tcpstate_triples), ("stagepost/congestion.errSize", laid_stagepost_congestion_errSize)], narrowed := true }
def TCPResetRepliesUptoSaid : Prop := tCPResetRepliesUptoRow.holds Tryz.pinned (OpenSpec.upto tCPResetRepliesSpec)

/-- 'stagepostlaw18.TCPSimultaneousOpen', WHERE WHAT IT READS IS OF BULK AT MOST 1048576: true; the input reads as it did. -/
def tCPSimultaneousOpenUptoRow : OpenClaim := { program := "ytclkcmidhhfdmaagreatdoor", sum := "c8e5647d7b17e43e1c2d2c87cdbce735f76e9a7c34852899c1efde0bb834b5de", func := "stagepost/stagepostlaw18.TCPSimultaneousOpen", spec := "tCPSimultaneousOpen", inPlace := ["internal/reflectlite.TypeOf"], unfollowed := true, recurses := true, named := ["stagepost/congestion.errSize", "stagepost/tcpstate.triples"], apart := false, laid := [("stagepost/tcpstate.triples", laid_stagepost_tcpstate_triples), ("stagepost/congestion.errSize", laid_stagepost_congestion_errSize)], narrowed := true }
def TCPSimultaneousOpenUptoSaid : Prop := tCPSimultaneousOpenUptoRow.holds Tryz.pinned (OpenSpec.upto tCPSimultaneousOpenSpec)

/-- 'stagepostlaw18.TCPSynRetransmission', WHERE WHAT IT READS IS OF BULK AT MOST 1048576: true; the input reads as it did. -/
def tCPSynRetransmissionUptoRow : OpenClaim := { program := "ytclkcmidhhfdmaagreatdoor", sum := "c8e5647d7b17e43e1c2d2c87cdbce735f76e9a7c34852899c1efde0bb834b5de", func := "stagepost/stagepostlaw18.TCPSynRetransmission", spec := "tCPSynRetransmission", inPlace := ["internal/reflectlite.TypeOf"], unfollowed := true, recurses := true, named := ["stagepost/congestion.errSize", "stagepost/tcpstate.triples"], apart := false, laid := [("stagepost/tcpstate.triples", laid_stagepost_tcpstate_triples), ("stagepost/congestion.errSize", laid_stagepost_congestion_errSize)], narrowed := true }
def TCPSynRetransmissionUptoSaid : Prop := tCPSynRetransmissionUptoRow.holds Tryz.pinned (OpenSpec.upto tCPSynRetransmissionSpec)

/-- 'stagepostlaw18.TCPReplayedSegments', WHERE WHAT IT READS IS OF BULK AT MOST 1048576: true; the input reads as it did. -/
def tCPReplayedSegmentsUptoRow : OpenClaim := { program := "ytclkcmidhhfdmaagreatdoor", sum := "c8e5647d7b17e43e1c2d2c87cdbce735f76e9a7c34852899c1efde0bb834b5de", func := "stagepost/stagepostlaw18.TCPReplayedSegments", spec := "tCPReplayedSegments", inPlace := ["internal/reflectlite.TypeOf"], unfollowed := true, recurses := true, named := ["stagepost/congestion.errSize", "stagepost/tcpstate.triples"], apart := false, laid := [("stagepost/tcpstate.triples", laid_stagepost_tcpstate_triples), ("stagepost/congestion.errSize", laid_stagepost_congestion_errSize)], narrowed := true }
def TCPReplayedSegmentsUptoSaid : Prop := tCPReplayedSegmentsUptoRow.holds Tryz.pinned (OpenSpec.upto tCPReplayedSegmentsSpec)

/-- 'stagepostlaw18.TCPStateTransitions', WHERE WHAT IT READS IS OF BULK AT MOST 1048576: true; the input reads as it did. -/
def tCPStateTransitionsUptoRow : OpenClaim := { program := "ytclkcmidhhfdmaagreatdoor", sum := "c8e5647d7b17e43e1c2d2c87cdbce735f76e9a7c34852899c1efde0bb834b5de", func := "stagepost/stagepostlaw18.TCPStateTransitions", spec := "tCPStateTransitions", inPlace := ["internal/reflectlite.TypeOf"], unfollowed := true, recurses := true, named := ["stagepost/congestion.errSize", "stagepost/tcpstate.triples"], apart := false, laid := [("stagepost/tcpstate.triples", laid_stagepost_tcpstate_triples), ("stagepost/congestion.errSize", laid_stagepost_congestion_errSize)], narrowed := true }
def TCPStateTransitionsUptoSaid : Prop := tCPStateTransitionsUptoRow.holds Tryz.pinned (OpenSpec.upto tCPStateTransitionsSpec)

/-- 'stagepostlaw18.TCPBlindSegments', WHERE WHAT IT READS IS OF BULK AT MOST 1048576: true; the input reads as it did. -/
def tCPBlindSegmentsUptoRow : OpenClaim := { program := "ytclkcmidhhfdmaagreatdoor", sum := "c8e5647d7b17e43e1c2d2c87cdbce735f76e9a7c34852899c1efde0bb834b5de", func := "stagepost/stagepostlaw18.TCPBlindSegments", spec := "tCPBlindSegments", inPlace := ["internal/reflectlite.TypeOf"], unfollowed := true, recurses := true, named := ["stagepost/congestion.errSize", "stagepost/tcpstate.triples"], apart := false, laid := [("stagepost/tcpstate.triples", laid_stagepost_tcpstate_triples), ("stagepost/congestion.errSize", laid_stagepost_congestion_errSize)], narrowed := true }
def TCPBlindSegmentsUptoSaid : Prop := tCPBlindSegmentsUptoRow.holds Tryz.pinned (OpenSpec.upto tCPBlindSegmentsSpec)

/-- 'stagepostlaw18.TCPHalfCloseAndZeroWindow', WHERE WHAT IT READS IS OF BULK AT MOST 1048576: true; the input reads as it did. -/
def tCPHalfCloseAndZeroWindowUptoRow : OpenClaim := { program := "ytclkcmidhhfdmaagreatdoor", sum := "c8e5647d7b17e43e1c2d2c87cdbce735f76e9a7c34852899c1efde0bb834b5de", func := "stagepost/stagepostlaw18.TCPHalfCloseAndZeroWindow", spec := "tCPHalfCloseAndZeroWindow", inPlace := ["internal/reflectlite.TypeOf"], unfollowed := true, recurses := true, named := ["stagepost/congestion.errSize", "stagepost/tcpstate.triples"], apart := false, laid := [("stagepost/tcpstate.triples", laid_stagepost_tcpstate_triples), ("stagepost/congestion.errSize", laid_stagepost_congestion_errSize)], narrowed := true }
def TCPHalfCloseAndZeroWindowUptoSaid : Prop := tCPHalfCloseAndZeroWindowUptoRow.holds Tryz.pinned (OpenSpec.upto tCPHalfCloseAndZeroWindowSpec)

/-- 'stagepostlaw18.TCPSmallerMSS', WHERE WHAT IT READS IS OF BULK AT MOST 1048576: true; the input reads as it did. -/
def tCPSmallerMSSUptoRow : OpenClaim := { program := "ytclkcmidhhfdmaagreatdoor", sum := "c8e5647d7b17e43e1c2d2c87cdbce735f76e9a7c34852899c1efde0bb834b5de", func := "stagepost/stagepostlaw18.TCPSmallerMSS", spec := "tCPSmallerMSS", inPlace := ["internal/reflectlite.TypeOf"], unfollowed := true, recurses := true, named := ["stagepost/congestion.errSize", "stagepost/tcpstate.triples"], apart := false, laid := [("stagepost/tcpstate.triples", laid_stagepost_tcpstate_triples), ("stagepost/congestion.errSize", laid_stagepost_congestion_errSize)], narrowed := true }
def TCPSmallerMSSUptoSaid : Prop := tCPSmallerMSSUptoRow.holds Tryz.pinned (OpenSpec.upto tCPSmallerMSSSpec)

/-- 'stagepostlaw18.TCPSegmentsEncode', WHERE WHAT IT READS IS OF BULK AT MOST 1048576: true; the input reads as it did. -/
def tCPSegmentsEncodeUptoRow : OpenClaim := { program := "ytclkcmidhhfdmaagreatdoor", sum := "c8e5647d7b17e43e1c2d2c87cdbce735f76e9a7c34852899c1efde0bb834b5de", func := "stagepost/stagepostlaw18.TCPSegmentsEncode", spec := "tCPSegmentsEncode", inPlace := ["internal/reflectlite.TypeOf", "internal/abi.NoEscape"], unfollowed := true, recurses := true, named := ["stagepost/congestion.errSize", "stagepost/tcpstate.triples"], apart := false, laid := [("stagepost/tcpstate.triples", laid_stagepost_tcpstate_triples), ("stagepost/congestion.errSize", laid_stagepost_congestion_errSize)], narrowed := true }
def TCPSegmentsEncodeUptoSaid : Prop := tCPSegmentsEncodeUptoRow.holds Tryz.pinned (OpenSpec.upto tCPSegmentsEncodeSpec)

end Rows
end Go.Proofs.YtclkcmidhhfdmaaGreatDoor
