/-
  DERIVED. GIVEN WITH THE SEED: THE CARDS: each row of YtldmkoicjpkdiaaDoorRows.lean that lists a variable, with what it lists TIED to the program's text (the seventh form; the later family's looks); each row that meets fmt, with fmt's text TOLD by the authors' own Lean function (tested against real Go, not proved from fmt's source: count such statements apart). THE CARD IS WHAT COUNTS. Prove the row's statement (the work); the ties are given (YtldmkoicjpkdiaaDoorTie.lean); close each card by the builder's one call (the guide's Derived/Test/ToyasCard.lean, 'card_holds'). Laid BY PROGRAM, IN A SANDBOX (cutbox-door.mjs). By AI agents, Wed Nov 11 2026. No macro, syntax, notation, axiom, sorry.
-/
import Derived.Test.YtldmkoicjpkdiaaDoorRows
import GoSem.ClaimSeven
namespace Go.Proofs.YtldmkoicjpkdiaaDoor
namespace Rows

/-- THE TIED CARD OF 'stagepostlaw04.LinkMatchesReference'. -/
def linkMatchesReferenceCard : Claim7 := { stood := { row := linkMatchesReferenceRow, standIns := [], harness := (true, "25624c552bb045dce066682b1a1f428a0ad966d8b00ab591aba167cd0a5f0300"), looks := true }, kinds := [], alts := [], laidByText := true, laidKinds := [.sentinel], laidTests := true, laidLooks := .later }
def LinkMatchesReferenceCardSaid : Prop := Claim7.holds Tryd.pinned (.plain (OpenSpec.ofChange linkMatchesReferenceSpec)) linkMatchesReferenceCard

/-- THE TIED CARD OF 'stagepostlaw04.LinkRoundTrip'. -/
def linkRoundTripCard : Claim7 := { stood := { row := linkRoundTripRow, standIns := [], harness := (true, "25624c552bb045dce066682b1a1f428a0ad966d8b00ab591aba167cd0a5f0300"), looks := true }, kinds := [], alts := [], laidByText := true, laidKinds := [.sentinel], laidTests := true, laidLooks := .later }
def LinkRoundTripCardSaid : Prop := Claim7.holds Tryd.pinned (.plain (OpenSpec.ofChange linkRoundTripSpec)) linkRoundTripCard

/-- THE TIED CARD OF 'stagepostlaw04.LinkCanonical'. -/
def linkCanonicalCard : Claim7 := { stood := { row := linkCanonicalRow, standIns := [], harness := (true, "25624c552bb045dce066682b1a1f428a0ad966d8b00ab591aba167cd0a5f0300"), looks := true }, kinds := [], alts := [], laidByText := true, laidKinds := [.sentinel], laidTests := true, laidLooks := .later }
def LinkCanonicalCardSaid : Prop := Claim7.holds Tryd.pinned (.plain (OpenSpec.ofChange linkCanonicalSpec)) linkCanonicalCard

/-- THE TIED CARD OF 'stagepostlaw04.LinkDetectsByteErrors'. -/
def linkDetectsByteErrorsCard : Claim7 := { stood := { row := linkDetectsByteErrorsRow, standIns := [], harness := (true, "25624c552bb045dce066682b1a1f428a0ad966d8b00ab591aba167cd0a5f0300"), looks := true }, kinds := [], alts := [], laidByText := true, laidKinds := [.sentinel], laidTests := true, laidLooks := .later }
def LinkDetectsByteErrorsCardSaid : Prop := Claim7.holds Tryd.pinned (.plain (OpenSpec.ofChange linkDetectsByteErrorsSpec)) linkDetectsByteErrorsCard

/-- THE TIED CARD OF 'stagepostlaw04.LinkRejectsOtherLengths'. -/
def linkRejectsOtherLengthsCard : Claim7 := { stood := { row := linkRejectsOtherLengthsRow, standIns := [], harness := (true, "25624c552bb045dce066682b1a1f428a0ad966d8b00ab591aba167cd0a5f0300"), looks := true }, kinds := [], alts := [], laidByText := true, laidKinds := [.sentinel], laidTests := true, laidLooks := .later }
def LinkRejectsOtherLengthsCardSaid : Prop := Claim7.holds Tryd.pinned (.plain (OpenSpec.ofChange linkRejectsOtherLengthsSpec)) linkRejectsOtherLengthsCard

/-- THE TIED CARD OF 'stagepostlaw04.LinkChecksumLayout'. -/
def linkChecksumLayoutCard : Claim7 := { stood := { row := linkChecksumLayoutRow, standIns := [], harness := (true, "25624c552bb045dce066682b1a1f428a0ad966d8b00ab591aba167cd0a5f0300"), looks := true }, kinds := [], alts := [], laidByText := true, laidKinds := [.sentinel], laidTests := true, laidLooks := .later }
def LinkChecksumLayoutCardSaid : Prop := Claim7.holds Tryd.pinned (.plain (OpenSpec.ofChange linkChecksumLayoutSpec)) linkChecksumLayoutCard

/-- THE TIED CARD OF 'stagepostlaw04.LinkDelivery'. -/
def linkDeliveryCard : Claim7 := { stood := { row := linkDeliveryRow, standIns := [], harness := (true, "25624c552bb045dce066682b1a1f428a0ad966d8b00ab591aba167cd0a5f0300"), looks := true }, kinds := [], alts := [], laidByText := true, laidKinds := [.sentinel], laidTests := true, laidLooks := .later }
def LinkDeliveryCardSaid : Prop := Claim7.holds Tryd.pinned (.plain (OpenSpec.ofChange linkDeliverySpec)) linkDeliveryCard

/-- THE SECOND FORM's CARD OF 'stagepostlaw04.LinkMatchesReference'. -/
def linkMatchesReferenceUptoCard : Claim7 := { stood := { row := linkMatchesReferenceUptoRow, standIns := [], harness := (true, "25624c552bb045dce066682b1a1f428a0ad966d8b00ab591aba167cd0a5f0300"), looks := true }, kinds := [], alts := [], laidByText := true, laidKinds := [.sentinel], laidTests := true, laidLooks := .later }
def LinkMatchesReferenceUptoCardSaid : Prop := Claim7.holds Tryd.pinned (.plain (OpenSpec.upto linkMatchesReferenceSpec)) linkMatchesReferenceUptoCard

/-- THE SECOND FORM's CARD OF 'stagepostlaw04.LinkRoundTrip'. -/
def linkRoundTripUptoCard : Claim7 := { stood := { row := linkRoundTripUptoRow, standIns := [], harness := (true, "25624c552bb045dce066682b1a1f428a0ad966d8b00ab591aba167cd0a5f0300"), looks := true }, kinds := [], alts := [], laidByText := true, laidKinds := [.sentinel], laidTests := true, laidLooks := .later }
def LinkRoundTripUptoCardSaid : Prop := Claim7.holds Tryd.pinned (.plain (OpenSpec.upto linkRoundTripSpec)) linkRoundTripUptoCard

/-- THE SECOND FORM's CARD OF 'stagepostlaw04.LinkCanonical'. -/
def linkCanonicalUptoCard : Claim7 := { stood := { row := linkCanonicalUptoRow, standIns := [], harness := (true, "25624c552bb045dce066682b1a1f428a0ad966d8b00ab591aba167cd0a5f0300"), looks := true }, kinds := [], alts := [], laidByText := true, laidKinds := [.sentinel], laidTests := true, laidLooks := .later }
def LinkCanonicalUptoCardSaid : Prop := Claim7.holds Tryd.pinned (.plain (OpenSpec.upto linkCanonicalSpec)) linkCanonicalUptoCard

/-- THE SECOND FORM's CARD OF 'stagepostlaw04.LinkDetectsByteErrors'. -/
def linkDetectsByteErrorsUptoCard : Claim7 := { stood := { row := linkDetectsByteErrorsUptoRow, standIns := [], harness := (true, "25624c552bb045dce066682b1a1f428a0ad966d8b00ab591aba167cd0a5f0300"), looks := true }, kinds := [], alts := [], laidByText := true, laidKinds := [.sentinel], laidTests := true, laidLooks := .later }
def LinkDetectsByteErrorsUptoCardSaid : Prop := Claim7.holds Tryd.pinned (.plain (OpenSpec.upto linkDetectsByteErrorsSpec)) linkDetectsByteErrorsUptoCard

/-- THE SECOND FORM's CARD OF 'stagepostlaw04.LinkRejectsOtherLengths'. -/
def linkRejectsOtherLengthsUptoCard : Claim7 := { stood := { row := linkRejectsOtherLengthsUptoRow, standIns := [], harness := (true, "25624c552bb045dce066682b1a1f428a0ad966d8b00ab591aba167cd0a5f0300"), looks := true }, kinds := [], alts := [], laidByText := true, laidKinds := [.sentinel], laidTests := true, laidLooks := .later }
def LinkRejectsOtherLengthsUptoCardSaid : Prop := Claim7.holds Tryd.pinned (.plain (OpenSpec.upto linkRejectsOtherLengthsSpec)) linkRejectsOtherLengthsUptoCard

/-- THE SECOND FORM's CARD OF 'stagepostlaw04.LinkChecksumLayout'. -/
def linkChecksumLayoutUptoCard : Claim7 := { stood := { row := linkChecksumLayoutUptoRow, standIns := [], harness := (true, "25624c552bb045dce066682b1a1f428a0ad966d8b00ab591aba167cd0a5f0300"), looks := true }, kinds := [], alts := [], laidByText := true, laidKinds := [.sentinel], laidTests := true, laidLooks := .later }
def LinkChecksumLayoutUptoCardSaid : Prop := Claim7.holds Tryd.pinned (.plain (OpenSpec.upto linkChecksumLayoutSpec)) linkChecksumLayoutUptoCard

/-- THE SECOND FORM's CARD OF 'stagepostlaw04.LinkDelivery'. -/
def linkDeliveryUptoCard : Claim7 := { stood := { row := linkDeliveryUptoRow, standIns := [], harness := (true, "25624c552bb045dce066682b1a1f428a0ad966d8b00ab591aba167cd0a5f0300"), looks := true }, kinds := [], alts := [], laidByText := true, laidKinds := [.sentinel], laidTests := true, laidLooks := .later }
def LinkDeliveryUptoCardSaid : Prop := Claim7.holds Tryd.pinned (.plain (OpenSpec.upto linkDeliverySpec)) linkDeliveryUptoCard
end Rows
end Go.Proofs.YtldmkoicjpkdiaaDoor
