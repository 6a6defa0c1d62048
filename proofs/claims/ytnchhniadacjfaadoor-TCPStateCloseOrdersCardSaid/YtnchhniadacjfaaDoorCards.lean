/-
  DERIVED. GIVEN WITH THE SEED: THE CARDS: each row of YtnchhniadacjfaaDoorRows.lean that lists a variable, with what it lists TIED to the program's text (the seventh form; the later family's looks); each row that meets fmt, with fmt's text TOLD by the authors' own Lean function (tested against real Go, not proved from fmt's source: count such statements apart). THE CARD IS WHAT COUNTS. Prove the row's statement (the work); the ties are given (YtnchhniadacjfaaDoorTie.lean); close each card by the builder's one call (the guide's Derived/Test/ToyasCard.lean, 'card_holds'). Laid BY PROGRAM, IN A SANDBOX (cutbox-door.mjs). By AI agents, Wed Nov 11 2026. No macro, syntax, notation, axiom, sorry.
-/
import Derived.Test.YtnchhniadacjfaaDoorRows
import GoSem.ClaimSeven
namespace Go.Proofs.YtnchhniadacjfaaDoor
namespace Rows

/-- THE TIED CARD OF 'stagepostlaw17.TCPStateMatchesReference'. -/
def tCPStateMatchesReferenceCard : Claim7 := { stood := { row := tCPStateMatchesReferenceRow, standIns := [], harness := (true, "d8fcb44d205e9b24597bafd3cf40f5d98e76a9c2b4fde2e94587dfe7cdddb5ca"), looks := false }, kinds := [], alts := [], laidByText := true, laidKinds := [.data, .data], laidTests := true, laidLooks := .later }
def TCPStateMatchesReferenceCardSaid : Prop := Claim7.holds Tryd.pinned (.plain (OpenSpec.ofChange tCPStateMatchesReferenceSpec)) tCPStateMatchesReferenceCard

/-- THE TIED CARD OF 'stagepostlaw17.TCPStateProgress'. -/
def tCPStateProgressCard : Claim7 := { stood := { row := tCPStateProgressRow, standIns := [], harness := (true, "d8fcb44d205e9b24597bafd3cf40f5d98e76a9c2b4fde2e94587dfe7cdddb5ca"), looks := false }, kinds := [], alts := [], laidByText := true, laidKinds := [.data, .data], laidTests := true, laidLooks := .later }
def TCPStateProgressCardSaid : Prop := Claim7.holds Tryd.pinned (.plain (OpenSpec.ofChange tCPStateProgressSpec)) tCPStateProgressCard

/-- THE TIED CARD OF 'stagepostlaw17.TCPStateHalfClose'. -/
def tCPStateHalfCloseCard : Claim7 := { stood := { row := tCPStateHalfCloseRow, standIns := [], harness := (true, "d8fcb44d205e9b24597bafd3cf40f5d98e76a9c2b4fde2e94587dfe7cdddb5ca"), looks := false }, kinds := [], alts := [], laidByText := true, laidKinds := [.data, .data], laidTests := true, laidLooks := .later }
def TCPStateHalfCloseCardSaid : Prop := Claim7.holds Tryd.pinned (.plain (OpenSpec.ofChange tCPStateHalfCloseSpec)) tCPStateHalfCloseCard

/-- THE TIED CARD OF 'stagepostlaw17.TCPStateCloseOrders'. -/
def tCPStateCloseOrdersCard : Claim7 := { stood := { row := tCPStateCloseOrdersRow, standIns := [], harness := (true, "d8fcb44d205e9b24597bafd3cf40f5d98e76a9c2b4fde2e94587dfe7cdddb5ca"), looks := false }, kinds := [], alts := [], laidByText := true, laidKinds := [.data, .data], laidTests := true, laidLooks := .later }
def TCPStateCloseOrdersCardSaid : Prop := Claim7.holds Tryd.pinned (.plain (OpenSpec.ofChange tCPStateCloseOrdersSpec)) tCPStateCloseOrdersCard

/-- THE TIED CARD OF 'stagepostlaw17.TCPStateOpens'. -/
def tCPStateOpensCard : Claim7 := { stood := { row := tCPStateOpensRow, standIns := [], harness := (true, "d8fcb44d205e9b24597bafd3cf40f5d98e76a9c2b4fde2e94587dfe7cdddb5ca"), looks := false }, kinds := [], alts := [], laidByText := true, laidKinds := [.data, .data], laidTests := true, laidLooks := .later }
def TCPStateOpensCardSaid : Prop := Claim7.holds Tryd.pinned (.plain (OpenSpec.ofChange tCPStateOpensSpec)) tCPStateOpensCard

/-- THE SECOND FORM's CARD OF 'stagepostlaw17.TCPStateMatchesReference'. -/
def tCPStateMatchesReferenceUptoCard : Claim7 := { stood := { row := tCPStateMatchesReferenceUptoRow, standIns := [], harness := (true, "d8fcb44d205e9b24597bafd3cf40f5d98e76a9c2b4fde2e94587dfe7cdddb5ca"), looks := false }, kinds := [], alts := [], laidByText := true, laidKinds := [.data, .data], laidTests := true, laidLooks := .later }
def TCPStateMatchesReferenceUptoCardSaid : Prop := Claim7.holds Tryd.pinned (.plain (OpenSpec.upto tCPStateMatchesReferenceSpec)) tCPStateMatchesReferenceUptoCard

/-- THE SECOND FORM's CARD OF 'stagepostlaw17.TCPStateProgress'. -/
def tCPStateProgressUptoCard : Claim7 := { stood := { row := tCPStateProgressUptoRow, standIns := [], harness := (true, "d8fcb44d205e9b24597bafd3cf40f5d98e76a9c2b4fde2e94587dfe7cdddb5ca"), looks := false }, kinds := [], alts := [], laidByText := true, laidKinds := [.data, .data], laidTests := true, laidLooks := .later }
def TCPStateProgressUptoCardSaid : Prop := Claim7.holds Tryd.pinned (.plain (OpenSpec.upto tCPStateProgressSpec)) tCPStateProgressUptoCard

/-- THE SECOND FORM's CARD OF 'stagepostlaw17.TCPStateHalfClose'. -/
def tCPStateHalfCloseUptoCard : Claim7 := { stood := { row := tCPStateHalfCloseUptoRow, standIns := [], harness := (true, "d8fcb44d205e9b24597bafd3cf40f5d98e76a9c2b4fde2e94587dfe7cdddb5ca"), looks := false }, kinds := [], alts := [], laidByText := true, laidKinds := [.data, .data], laidTests := true, laidLooks := .later }
def TCPStateHalfCloseUptoCardSaid : Prop := Claim7.holds Tryd.pinned (.plain (OpenSpec.upto tCPStateHalfCloseSpec)) tCPStateHalfCloseUptoCard

/-- THE SECOND FORM's CARD OF 'stagepostlaw17.TCPStateCloseOrders'. -/
def tCPStateCloseOrdersUptoCard : Claim7 := { stood := { row := tCPStateCloseOrdersUptoRow, standIns := [], harness := (true, "d8fcb44d205e9b24597bafd3cf40f5d98e76a9c2b4fde2e94587dfe7cdddb5ca"), looks := false }, kinds := [], alts := [], laidByText := true, laidKinds := [.data, .data], laidTests := true, laidLooks := .later }
def TCPStateCloseOrdersUptoCardSaid : Prop := Claim7.holds Tryd.pinned (.plain (OpenSpec.upto tCPStateCloseOrdersSpec)) tCPStateCloseOrdersUptoCard

/-- THE SECOND FORM's CARD OF 'stagepostlaw17.TCPStateOpens'. -/
def tCPStateOpensUptoCard : Claim7 := { stood := { row := tCPStateOpensUptoRow, standIns := [], harness := (true, "d8fcb44d205e9b24597bafd3cf40f5d98e76a9c2b4fde2e94587dfe7cdddb5ca"), looks := false }, kinds := [], alts := [], laidByText := true, laidKinds := [.data, .data], laidTests := true, laidLooks := .later }
def TCPStateOpensUptoCardSaid : Prop := Claim7.holds Tryd.pinned (.plain (OpenSpec.upto tCPStateOpensSpec)) tCPStateOpensUptoCard
end Rows
end Go.Proofs.YtnchhniadacjfaaDoor
