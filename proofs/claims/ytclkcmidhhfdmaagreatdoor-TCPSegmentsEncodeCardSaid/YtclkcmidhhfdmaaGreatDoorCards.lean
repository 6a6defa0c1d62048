/-
  DERIVED. GIVEN WITH THE SEED: THE CARDS: each row of YtclkcmidhhfdmaaGreatDoorRows.lean that lists a variable, with what it lists TIED to the program's text (the seventh form; the later family's looks); each row that meets fmt, with fmt's text TOLD by the authors' own Lean function (tested against real Go, not proved from fmt's source: count such statements apart). THE CARD IS WHAT COUNTS. Prove the row's statement (the work); the ties are given (YtclkcmidhhfdmaaGreatDoorTie.lean); close each card by the builder's one call (the guide's Derived/Test/ToyasCard.lean, 'card_holds'). Laid BY PROGRAM, IN A SANDBOX (cutbox-door.mjs). By AI agents, Wed Nov 11 2026. No macro, syntax, notation, axiom, sorry.
-/
import Derived.Test.YtclkcmidhhfdmaaGreatDoorRows
import GoSem.ClaimSeven
namespace Go.Proofs.YtclkcmidhhfdmaaGreatDoor
namespace Rows

/-- THE TIED CARD OF 'stagepostlaw18.TCPDeliversPrefix'. -/
def tCPDeliversPrefixCard : Claim7 := { stood := { row := tCPDeliversPrefixRow, standIns := [], harness := (true, "801701831b467162824ebb64c0709bc165257aeb5b171687bfbd5a84298a3a51"), looks := true }, kinds := [], alts := [], laidByText := true, laidKinds := [.data, .sentinel], laidTests := true, laidLooks := .later }
def TCPDeliversPrefixCardSaid : Prop := Claim7.holds Tryz.pinned (.plain (OpenSpec.ofChange tCPDeliversPrefixSpec)) tCPDeliversPrefixCard

/-- THE TIED CARD OF 'stagepostlaw18.TCPSequenceShift'. -/
def tCPSequenceShiftCard : Claim7 := { stood := { row := tCPSequenceShiftRow, standIns := [], harness := (true, "801701831b467162824ebb64c0709bc165257aeb5b171687bfbd5a84298a3a51"), looks := true }, kinds := [], alts := [], laidByText := true, laidKinds := [.data, .sentinel], laidTests := true, laidLooks := .later }
def TCPSequenceShiftCardSaid : Prop := Claim7.holds Tryz.pinned (.plain (OpenSpec.ofChange tCPSequenceShiftSpec)) tCPSequenceShiftCard

/-- THE TIED CARD OF 'stagepostlaw18.TCPRespectsLimits'. -/
def tCPRespectsLimitsCard : Claim7 := { stood := { row := tCPRespectsLimitsRow, standIns := [], harness := (true, "801701831b467162824ebb64c0709bc165257aeb5b171687bfbd5a84298a3a51"), looks := true }, kinds := [], alts := [], laidByText := true, laidKinds := [.data, .sentinel], laidTests := true, laidLooks := .later }
def TCPRespectsLimitsCardSaid : Prop := Claim7.holds Tryz.pinned (.plain (OpenSpec.ofChange tCPRespectsLimitsSpec)) tCPRespectsLimitsCard

/-- THE TIED CARD OF 'stagepostlaw18.TCPResetReplies'. -/
def tCPResetRepliesCard : Claim7 := { stood := { row := tCPResetRepliesRow, standIns := [], harness := (true, "801701831b467162824ebb64c0709bc165257aeb5b171687bfbd5a84298a3a51"), looks := true }, kinds := [], alts := [], laidByText := true, laidKinds := [.data, .sentinel], laidTests := true, laidLooks := .later }
def TCPResetRepliesCardSaid : Prop := Claim7.holds Tryz.pinned (.plain (OpenSpec.ofChange tCPResetRepliesSpec)) tCPResetRepliesCard

/-- THE TIED CARD OF 'stagepostlaw18.TCPSimultaneousOpen'. -/
def tCPSimultaneousOpenCard : Claim7 := { stood := { row := tCPSimultaneousOpenRow, standIns := [], harness := (true, "801701831b467162824ebb64c0709bc165257aeb5b171687bfbd5a84298a3a51"), looks := true }, kinds := [], alts := [], laidByText := true, laidKinds := [.data, .sentinel], laidTests := true, laidLooks := .later }
def TCPSimultaneousOpenCardSaid : Prop := Claim7.holds Tryz.pinned (.plain (OpenSpec.ofChange tCPSimultaneousOpenSpec)) tCPSimultaneousOpenCard

/-- THE TIED CARD OF 'stagepostlaw18.TCPSynRetransmission'. -/
def tCPSynRetransmissionCard : Claim7 := { stood := { row := tCPSynRetransmissionRow, standIns := [], harness := (true, "801701831b467162824ebb64c0709bc165257aeb5b171687bfbd5a84298a3a51"), looks := true }, kinds := [], alts := [], laidByText := true, laidKinds := [.data, .sentinel], laidTests := true, laidLooks := .later }
def TCPSynRetransmissionCardSaid : Prop := Claim7.holds Tryz.pinned (.plain (OpenSpec.ofChange tCPSynRetransmissionSpec)) tCPSynRetransmissionCard

/-- THE TIED CARD OF 'stagepostlaw18.TCPReplayedSegments'. -/
def tCPReplayedSegmentsCard : Claim7 := { stood := { row := tCPReplayedSegmentsRow, standIns := [], harness := (true, "801701831b467162824ebb64c0709bc165257aeb5b171687bfbd5a84298a3a51"), looks := true }, kinds := [], alts := [], laidByText := true, laidKinds := [.data, .sentinel], laidTests := true, laidLooks := .later }
def TCPReplayedSegmentsCardSaid : Prop := Claim7.holds Tryz.pinned (.plain (OpenSpec.ofChange tCPReplayedSegmentsSpec)) tCPReplayedSegmentsCard

/-- THE TIED CARD OF 'stagepostlaw18.TCPStateTransitions'. -/
def tCPStateTransitionsCard : Claim7 := { stood := { row := tCPStateTransitionsRow, standIns := [], harness := (true, "801701831b467162824ebb64c0709bc165257aeb5b171687bfbd5a84298a3a51"), looks := true }, kinds := [], alts := [], laidByText := true, laidKinds := [.data, .sentinel], laidTests := true, laidLooks := .later }
def TCPStateTransitionsCardSaid : Prop := Claim7.holds Tryz.pinned (.plain (OpenSpec.ofChange tCPStateTransitionsSpec)) tCPStateTransitionsCard

/-- THE TIED CARD OF 'stagepostlaw18.TCPBlindSegments'. -/
def tCPBlindSegmentsCard : Claim7 := { stood := { row := tCPBlindSegmentsRow, standIns := [], harness := (true, "801701831b467162824ebb64c0709bc165257aeb5b171687bfbd5a84298a3a51"), looks := true }, kinds := [], alts := [], laidByText := true, laidKinds := [.data, .sentinel], laidTests := true, laidLooks := .later }
def TCPBlindSegmentsCardSaid : Prop := Claim7.holds Tryz.pinned (.plain (OpenSpec.ofChange tCPBlindSegmentsSpec)) tCPBlindSegmentsCard

/-- THE TIED CARD OF 'stagepostlaw18.TCPHalfCloseAndZeroWindow'. -/
def tCPHalfCloseAndZeroWindowCard : Claim7 := { stood := { row := tCPHalfCloseAndZeroWindowRow, standIns := [], harness := (true, "801701831b467162824ebb64c0709bc165257aeb5b171687bfbd5a84298a3a51"), looks := true }, kinds := [], alts := [], laidByText := true, laidKinds := [.data, .sentinel], laidTests := true, laidLooks := .later }
def TCPHalfCloseAndZeroWindowCardSaid : Prop := Claim7.holds Tryz.pinned (.plain (OpenSpec.ofChange tCPHalfCloseAndZeroWindowSpec)) tCPHalfCloseAndZeroWindowCard

/-- THE TIED CARD OF 'stagepostlaw18.TCPSmallerMSS'. -/
def tCPSmallerMSSCard : Claim7 := { stood := { row := tCPSmallerMSSRow, standIns := [], harness := (true, "801701831b467162824ebb64c0709bc165257aeb5b171687bfbd5a84298a3a51"), looks := true }, kinds := [], alts := [], laidByText := true, laidKinds := [.data, .sentinel], laidTests := true, laidLooks := .later }
def TCPSmallerMSSCardSaid : Prop := Claim7.holds Tryz.pinned (.plain (OpenSpec.ofChange tCPSmallerMSSSpec)) tCPSmallerMSSCard

/-- THE TIED CARD OF 'stagepostlaw18.TCPSegmentsEncode'. -/
def tCPSegmentsEncodeCard : Claim7 := { stood := { row := tCPSegmentsEncodeRow, standIns := [], harness := (true, "801701831b467162824ebb64c0709bc165257aeb5b171687bfbd5a84298a3a51"), looks := true }, kinds := [], alts := [], laidByText := true, laidKinds := [.data, .sentinel], laidTests := true, laidLooks := .later }
def TCPSegmentsEncodeCardSaid : Prop := Claim7.holds Tryz.pinned (.plain (OpenSpec.ofChange tCPSegmentsEncodeSpec)) tCPSegmentsEncodeCard

/-- THE SECOND FORM's CARD OF 'stagepostlaw18.TCPDeliversPrefix'. -/
def tCPDeliversPrefixUptoCard : Claim7 := { stood := { row := tCPDeliversPrefixUptoRow, standIns := [], harness := (true, "801701831b467162824ebb64c0709bc165257aeb5b171687bfbd5a84298a3a51"), looks := true }, kinds := [], alts := [], laidByText := true, laidKinds := [.data, .sentinel], laidTests := true, laidLooks := .later }
def TCPDeliversPrefixUptoCardSaid : Prop := Claim7.holds Tryz.pinned (.plain (OpenSpec.upto tCPDeliversPrefixSpec)) tCPDeliversPrefixUptoCard

/-- THE SECOND FORM's CARD OF 'stagepostlaw18.TCPSequenceShift'. -/
def tCPSequenceShiftUptoCard : Claim7 := { stood := { row := tCPSequenceShiftUptoRow, standIns := [], harness := (true, "801701831b467162824ebb64c0709bc165257aeb5b171687bfbd5a84298a3a51"), looks := true }, kinds := [], alts := [], laidByText := true, laidKinds := [.data, .sentinel], laidTests := true, laidLooks := .later }
def TCPSequenceShiftUptoCardSaid : Prop := Claim7.holds Tryz.pinned (.plain (OpenSpec.upto tCPSequenceShiftSpec)) tCPSequenceShiftUptoCard

/-- THE SECOND FORM's CARD OF 'stagepostlaw18.TCPRespectsLimits'. -/
def tCPRespectsLimitsUptoCard : Claim7 := { stood := { row := tCPRespectsLimitsUptoRow, standIns := [], harness := (true, "801701831b467162824ebb64c0709bc165257aeb5b171687bfbd5a84298a3a51"), looks := true }, kinds := [], alts := [], laidByText := true, laidKinds := [.data, .sentinel], laidTests := true, laidLooks := .later }
def TCPRespectsLimitsUptoCardSaid : Prop := Claim7.holds Tryz.pinned (.plain (OpenSpec.upto tCPRespectsLimitsSpec)) tCPRespectsLimitsUptoCard

/-- THE SECOND FORM's CARD OF 'stagepostlaw18.TCPResetReplies'. -/
def tCPResetRepliesUptoCard : Claim7 := { stood := { row := tCPResetRepliesUptoRow, standIns := [], harness := (true, "801701831b467162824ebb64c0709bc165257aeb5b171687bfbd5a84298a3a51"), looks := true }, kinds := [], alts := [], laidByText := true, laidKinds := [.data, .sentinel], laidTests := true, laidLooks := .later }
def TCPResetRepliesUptoCardSaid : Prop := Claim7.holds Tryz.pinned (.plain (OpenSpec.upto tCPResetRepliesSpec)) tCPResetRepliesUptoCard

/-- THE SECOND FORM's CARD OF 'stagepostlaw18.TCPSimultaneousOpen'. -/
def tCPSimultaneousOpenUptoCard : Claim7 := { stood := { row := tCPSimultaneousOpenUptoRow, standIns := [], harness := (true, "801701831b467162824ebb64c0709bc165257aeb5b171687bfbd5a84298a3a51"), looks := true }, kinds := [], alts := [], laidByText := true, laidKinds := [.data, .sentinel], laidTests := true, laidLooks := .later }
def TCPSimultaneousOpenUptoCardSaid : Prop := Claim7.holds Tryz.pinned (.plain (OpenSpec.upto tCPSimultaneousOpenSpec)) tCPSimultaneousOpenUptoCard

/-- THE SECOND FORM's CARD OF 'stagepostlaw18.TCPSynRetransmission'. -/
def tCPSynRetransmissionUptoCard : Claim7 := { stood := { row := tCPSynRetransmissionUptoRow, standIns := [], harness := (true, "801701831b467162824ebb64c0709bc165257aeb5b171687bfbd5a84298a3a51"), looks := true }, kinds := [], alts := [], laidByText := true, laidKinds := [.data, .sentinel], laidTests := true, laidLooks := .later }
def TCPSynRetransmissionUptoCardSaid : Prop := Claim7.holds Tryz.pinned (.plain (OpenSpec.upto tCPSynRetransmissionSpec)) tCPSynRetransmissionUptoCard

/-- THE SECOND FORM's CARD OF 'stagepostlaw18.TCPReplayedSegments'. -/
def tCPReplayedSegmentsUptoCard : Claim7 := { stood := { row := tCPReplayedSegmentsUptoRow, standIns := [], harness := (true, "801701831b467162824ebb64c0709bc165257aeb5b171687bfbd5a84298a3a51"), looks := true }, kinds := [], alts := [], laidByText := true, laidKinds := [.data, .sentinel], laidTests := true, laidLooks := .later }
def TCPReplayedSegmentsUptoCardSaid : Prop := Claim7.holds Tryz.pinned (.plain (OpenSpec.upto tCPReplayedSegmentsSpec)) tCPReplayedSegmentsUptoCard

/-- THE SECOND FORM's CARD OF 'stagepostlaw18.TCPStateTransitions'. -/
def tCPStateTransitionsUptoCard : Claim7 := { stood := { row := tCPStateTransitionsUptoRow, standIns := [], harness := (true, "801701831b467162824ebb64c0709bc165257aeb5b171687bfbd5a84298a3a51"), looks := true }, kinds := [], alts := [], laidByText := true, laidKinds := [.data, .sentinel], laidTests := true, laidLooks := .later }
def TCPStateTransitionsUptoCardSaid : Prop := Claim7.holds Tryz.pinned (.plain (OpenSpec.upto tCPStateTransitionsSpec)) tCPStateTransitionsUptoCard

/-- THE SECOND FORM's CARD OF 'stagepostlaw18.TCPBlindSegments'. -/
def tCPBlindSegmentsUptoCard : Claim7 := { stood := { row := tCPBlindSegmentsUptoRow, standIns := [], harness := (true, "801701831b467162824ebb64c0709bc165257aeb5b171687bfbd5a84298a3a51"), looks := true }, kinds := [], alts := [], laidByText := true, laidKinds := [.data, .sentinel], laidTests := true, laidLooks := .later }
def TCPBlindSegmentsUptoCardSaid : Prop := Claim7.holds Tryz.pinned (.plain (OpenSpec.upto tCPBlindSegmentsSpec)) tCPBlindSegmentsUptoCard

/-- THE SECOND FORM's CARD OF 'stagepostlaw18.TCPHalfCloseAndZeroWindow'. -/
def tCPHalfCloseAndZeroWindowUptoCard : Claim7 := { stood := { row := tCPHalfCloseAndZeroWindowUptoRow, standIns := [], harness := (true, "801701831b467162824ebb64c0709bc165257aeb5b171687bfbd5a84298a3a51"), looks := true }, kinds := [], alts := [], laidByText := true, laidKinds := [.data, .sentinel], laidTests := true, laidLooks := .later }
def TCPHalfCloseAndZeroWindowUptoCardSaid : Prop := Claim7.holds Tryz.pinned (.plain (OpenSpec.upto tCPHalfCloseAndZeroWindowSpec)) tCPHalfCloseAndZeroWindowUptoCard

/-- THE SECOND FORM's CARD OF 'stagepostlaw18.TCPSmallerMSS'. -/
def tCPSmallerMSSUptoCard : Claim7 := { stood := { row := tCPSmallerMSSUptoRow, standIns := [], harness := (true, "801701831b467162824ebb64c0709bc165257aeb5b171687bfbd5a84298a3a51"), looks := true }, kinds := [], alts := [], laidByText := true, laidKinds := [.data, .sentinel], laidTests := true, laidLooks := .later }
def TCPSmallerMSSUptoCardSaid : Prop := Claim7.holds Tryz.pinned (.plain (OpenSpec.upto tCPSmallerMSSSpec)) tCPSmallerMSSUptoCard

/-- THE SECOND FORM's CARD OF 'stagepostlaw18.TCPSegmentsEncode'. -/
def tCPSegmentsEncodeUptoCard : Claim7 := { stood := { row := tCPSegmentsEncodeUptoRow, standIns := [], harness := (true, "801701831b467162824ebb64c0709bc165257aeb5b171687bfbd5a84298a3a51"), looks := true }, kinds := [], alts := [], laidByText := true, laidKinds := [.data, .sentinel], laidTests := true, laidLooks := .later }
def TCPSegmentsEncodeUptoCardSaid : Prop := Claim7.holds Tryz.pinned (.plain (OpenSpec.upto tCPSegmentsEncodeSpec)) tCPSegmentsEncodeUptoCard
end Rows
end Go.Proofs.YtclkcmidhhfdmaaGreatDoor
