/-
  DERIVED. GIVEN WITH THE SEED: THE CARDS: each row of YtcmncipikdpnbaaGreatDoorRows.lean that lists a variable, with what it lists TIED to the program's text (the seventh form; the later family's looks); each row that meets fmt, with fmt's text TOLD by the authors' own Lean function (tested against real Go, not proved from fmt's source: count such statements apart). THE CARD IS WHAT COUNTS. Prove the row's statement (the work); the ties are given (YtcmncipikdpnbaaGreatDoorTie.lean); close each card by the builder's one call (the guide's Derived/Test/ToyasCard.lean, 'card_holds'). Laid BY PROGRAM, IN A SANDBOX (cutbox-door.mjs). By AI agents, Wed Nov 11 2026. No macro, syntax, notation, axiom, sorry.
-/
import Derived.Test.YtcmncipikdpnbaaGreatDoorRows
import GoSem.ClaimSeven
namespace Go.Proofs.YtcmncipikdpnbaaGreatDoor
namespace Rows

/-- THE TIED CARD OF 'stagepostlaw18.TCPDeliversAll'. -/
def tCPDeliversAllCard : Claim7 := { stood := { row := tCPDeliversAllRow, standIns := [], harness := (true, "b8850f1382de88dfebcf8b59eb32e88360a85060a57013e57750ac6e1ff49a01"), looks := true }, kinds := [], alts := [], laidByText := true, laidKinds := [.data, .sentinel], laidTests := true, laidLooks := .later }
def TCPDeliversAllCardSaid : Prop := Claim7.holds Tryz.pinned (.plain (OpenSpec.ofChange tCPDeliversAllSpec)) tCPDeliversAllCard

/-- THE TIED CARD OF 'stagepostlaw18.TCPSimultaneousOpen'. -/
def tCPSimultaneousOpenCard : Claim7 := { stood := { row := tCPSimultaneousOpenRow, standIns := [], harness := (true, "b8850f1382de88dfebcf8b59eb32e88360a85060a57013e57750ac6e1ff49a01"), looks := true }, kinds := [], alts := [], laidByText := true, laidKinds := [.data, .sentinel], laidTests := true, laidLooks := .later }
def TCPSimultaneousOpenCardSaid : Prop := Claim7.holds Tryz.pinned (.plain (OpenSpec.ofChange tCPSimultaneousOpenSpec)) tCPSimultaneousOpenCard

/-- THE TIED CARD OF 'stagepostlaw18.TCPReplayedSegments'. -/
def tCPReplayedSegmentsCard : Claim7 := { stood := { row := tCPReplayedSegmentsRow, standIns := [], harness := (true, "b8850f1382de88dfebcf8b59eb32e88360a85060a57013e57750ac6e1ff49a01"), looks := true }, kinds := [], alts := [], laidByText := true, laidKinds := [.data, .sentinel], laidTests := true, laidLooks := .later }
def TCPReplayedSegmentsCardSaid : Prop := Claim7.holds Tryz.pinned (.plain (OpenSpec.ofChange tCPReplayedSegmentsSpec)) tCPReplayedSegmentsCard

/-- THE TIED CARD OF 'stagepostlaw18.TCPHalfCloseAndZeroWindow'. -/
def tCPHalfCloseAndZeroWindowCard : Claim7 := { stood := { row := tCPHalfCloseAndZeroWindowRow, standIns := [], harness := (true, "b8850f1382de88dfebcf8b59eb32e88360a85060a57013e57750ac6e1ff49a01"), looks := true }, kinds := [], alts := [], laidByText := true, laidKinds := [.data, .sentinel], laidTests := true, laidLooks := .later }
def TCPHalfCloseAndZeroWindowCardSaid : Prop := Claim7.holds Tryz.pinned (.plain (OpenSpec.ofChange tCPHalfCloseAndZeroWindowSpec)) tCPHalfCloseAndZeroWindowCard

/-- THE TIED CARD OF 'stagepostlaw18.TCPSmallerMSS'. -/
def tCPSmallerMSSCard : Claim7 := { stood := { row := tCPSmallerMSSRow, standIns := [], harness := (true, "b8850f1382de88dfebcf8b59eb32e88360a85060a57013e57750ac6e1ff49a01"), looks := true }, kinds := [], alts := [], laidByText := true, laidKinds := [.data, .sentinel], laidTests := true, laidLooks := .later }
def TCPSmallerMSSCardSaid : Prop := Claim7.holds Tryz.pinned (.plain (OpenSpec.ofChange tCPSmallerMSSSpec)) tCPSmallerMSSCard

/-- THE SECOND FORM's CARD OF 'stagepostlaw18.TCPDeliversAll'. -/
def tCPDeliversAllUptoCard : Claim7 := { stood := { row := tCPDeliversAllUptoRow, standIns := [], harness := (true, "b8850f1382de88dfebcf8b59eb32e88360a85060a57013e57750ac6e1ff49a01"), looks := true }, kinds := [], alts := [], laidByText := true, laidKinds := [.data, .sentinel], laidTests := true, laidLooks := .later }
def TCPDeliversAllUptoCardSaid : Prop := Claim7.holds Tryz.pinned (.plain (OpenSpec.upto tCPDeliversAllSpec)) tCPDeliversAllUptoCard

/-- THE SECOND FORM's CARD OF 'stagepostlaw18.TCPSimultaneousOpen'. -/
def tCPSimultaneousOpenUptoCard : Claim7 := { stood := { row := tCPSimultaneousOpenUptoRow, standIns := [], harness := (true, "b8850f1382de88dfebcf8b59eb32e88360a85060a57013e57750ac6e1ff49a01"), looks := true }, kinds := [], alts := [], laidByText := true, laidKinds := [.data, .sentinel], laidTests := true, laidLooks := .later }
def TCPSimultaneousOpenUptoCardSaid : Prop := Claim7.holds Tryz.pinned (.plain (OpenSpec.upto tCPSimultaneousOpenSpec)) tCPSimultaneousOpenUptoCard

/-- THE SECOND FORM's CARD OF 'stagepostlaw18.TCPReplayedSegments'. -/
def tCPReplayedSegmentsUptoCard : Claim7 := { stood := { row := tCPReplayedSegmentsUptoRow, standIns := [], harness := (true, "b8850f1382de88dfebcf8b59eb32e88360a85060a57013e57750ac6e1ff49a01"), looks := true }, kinds := [], alts := [], laidByText := true, laidKinds := [.data, .sentinel], laidTests := true, laidLooks := .later }
def TCPReplayedSegmentsUptoCardSaid : Prop := Claim7.holds Tryz.pinned (.plain (OpenSpec.upto tCPReplayedSegmentsSpec)) tCPReplayedSegmentsUptoCard

/-- THE SECOND FORM's CARD OF 'stagepostlaw18.TCPHalfCloseAndZeroWindow'. -/
def tCPHalfCloseAndZeroWindowUptoCard : Claim7 := { stood := { row := tCPHalfCloseAndZeroWindowUptoRow, standIns := [], harness := (true, "b8850f1382de88dfebcf8b59eb32e88360a85060a57013e57750ac6e1ff49a01"), looks := true }, kinds := [], alts := [], laidByText := true, laidKinds := [.data, .sentinel], laidTests := true, laidLooks := .later }
def TCPHalfCloseAndZeroWindowUptoCardSaid : Prop := Claim7.holds Tryz.pinned (.plain (OpenSpec.upto tCPHalfCloseAndZeroWindowSpec)) tCPHalfCloseAndZeroWindowUptoCard

/-- THE SECOND FORM's CARD OF 'stagepostlaw18.TCPSmallerMSS'. -/
def tCPSmallerMSSUptoCard : Claim7 := { stood := { row := tCPSmallerMSSUptoRow, standIns := [], harness := (true, "b8850f1382de88dfebcf8b59eb32e88360a85060a57013e57750ac6e1ff49a01"), looks := true }, kinds := [], alts := [], laidByText := true, laidKinds := [.data, .sentinel], laidTests := true, laidLooks := .later }
def TCPSmallerMSSUptoCardSaid : Prop := Claim7.holds Tryz.pinned (.plain (OpenSpec.upto tCPSmallerMSSSpec)) tCPSmallerMSSUptoCard
end Rows
end Go.Proofs.YtcmncipikdpnbaaGreatDoor
