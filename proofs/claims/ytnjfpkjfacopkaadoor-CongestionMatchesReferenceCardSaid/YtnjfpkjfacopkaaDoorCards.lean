/-
  DERIVED. GIVEN WITH THE SEED: THE CARDS: each row of YtnjfpkjfacopkaaDoorRows.lean that lists a variable, with what it lists TIED to the program's text (the seventh form; the later family's looks); each row that meets fmt, with fmt's text TOLD by the authors' own Lean function (tested against real Go, not proved from fmt's source: count such statements apart). THE CARD IS WHAT COUNTS. Prove the row's statement (the work); the ties are given (YtnjfpkjfacopkaaDoorTie.lean); close each card by the builder's one call (the guide's Derived/Test/ToyasCard.lean, 'card_holds'). Laid BY PROGRAM, IN A SANDBOX (cutbox-door.mjs). By AI agents, Wed Nov 11 2026. No macro, syntax, notation, axiom, sorry.
-/
import Derived.Test.YtnjfpkjfacopkaaDoorRows
import GoSem.ClaimSeven
namespace Go.Proofs.YtnjfpkjfacopkaaDoor
namespace Rows

/-- THE TIED CARD OF 'stagepostlaw16.CongestionHalvesOnce'. -/
def congestionHalvesOnceCard : Claim7 := { stood := { row := congestionHalvesOnceRow, standIns := [], harness := (true, "28f2043b091b406f8e6b879aca34fbf833315c7c8481d7cab0865d28eeb7b9b6"), looks := true }, kinds := [], alts := [], laidByText := true, laidKinds := [.sentinel], laidTests := true, laidLooks := .later }
def CongestionHalvesOnceCardSaid : Prop := Claim7.holds Tryd.pinned (.plain (OpenSpec.ofChange congestionHalvesOnceSpec)) congestionHalvesOnceCard

/-- THE TIED CARD OF 'stagepostlaw16.CongestionSlowStart'. -/
def congestionSlowStartCard : Claim7 := { stood := { row := congestionSlowStartRow, standIns := [], harness := (true, "28f2043b091b406f8e6b879aca34fbf833315c7c8481d7cab0865d28eeb7b9b6"), looks := true }, kinds := [], alts := [], laidByText := true, laidKinds := [.sentinel], laidTests := true, laidLooks := .later }
def CongestionSlowStartCardSaid : Prop := Claim7.holds Tryd.pinned (.plain (OpenSpec.ofChange congestionSlowStartSpec)) congestionSlowStartCard

/-- THE TIED CARD OF 'stagepostlaw16.CongestionMatchesReference'. -/
def congestionMatchesReferenceCard : Claim7 := { stood := { row := congestionMatchesReferenceRow, standIns := [], harness := (true, "28f2043b091b406f8e6b879aca34fbf833315c7c8481d7cab0865d28eeb7b9b6"), looks := true }, kinds := [], alts := [], laidByText := true, laidKinds := [.sentinel], laidTests := true, laidLooks := .later }
def CongestionMatchesReferenceCardSaid : Prop := Claim7.holds Tryd.pinned (.plain (OpenSpec.ofChange congestionMatchesReferenceSpec)) congestionMatchesReferenceCard

/-- THE TIED CARD OF 'stagepostlaw16.CongestionWindowBounds'. -/
def congestionWindowBoundsCard : Claim7 := { stood := { row := congestionWindowBoundsRow, standIns := [], harness := (true, "28f2043b091b406f8e6b879aca34fbf833315c7c8481d7cab0865d28eeb7b9b6"), looks := true }, kinds := [], alts := [], laidByText := true, laidKinds := [.sentinel], laidTests := true, laidLooks := .later }
def CongestionWindowBoundsCardSaid : Prop := Claim7.holds Tryd.pinned (.plain (OpenSpec.ofChange congestionWindowBoundsSpec)) congestionWindowBoundsCard

/-- THE TIED CARD OF 'stagepostlaw16.CongestionGrowth'. -/
def congestionGrowthCard : Claim7 := { stood := { row := congestionGrowthRow, standIns := [], harness := (true, "28f2043b091b406f8e6b879aca34fbf833315c7c8481d7cab0865d28eeb7b9b6"), looks := true }, kinds := [], alts := [], laidByText := true, laidKinds := [.sentinel], laidTests := true, laidLooks := .later }
def CongestionGrowthCardSaid : Prop := Claim7.holds Tryd.pinned (.plain (OpenSpec.ofChange congestionGrowthSpec)) congestionGrowthCard

/-- THE TIED CARD OF 'stagepostlaw16.CongestionSetMSS'. -/
def congestionSetMSSCard : Claim7 := { stood := { row := congestionSetMSSRow, standIns := [], harness := (true, "28f2043b091b406f8e6b879aca34fbf833315c7c8481d7cab0865d28eeb7b9b6"), looks := true }, kinds := [], alts := [], laidByText := true, laidKinds := [.sentinel], laidTests := true, laidLooks := .later }
def CongestionSetMSSCardSaid : Prop := Claim7.holds Tryd.pinned (.plain (OpenSpec.ofChange congestionSetMSSSpec)) congestionSetMSSCard

/-- THE SECOND FORM's CARD OF 'stagepostlaw16.CongestionHalvesOnce'. -/
def congestionHalvesOnceUptoCard : Claim7 := { stood := { row := congestionHalvesOnceUptoRow, standIns := [], harness := (true, "28f2043b091b406f8e6b879aca34fbf833315c7c8481d7cab0865d28eeb7b9b6"), looks := true }, kinds := [], alts := [], laidByText := true, laidKinds := [.sentinel], laidTests := true, laidLooks := .later }
def CongestionHalvesOnceUptoCardSaid : Prop := Claim7.holds Tryd.pinned (.plain (OpenSpec.upto congestionHalvesOnceSpec)) congestionHalvesOnceUptoCard

/-- THE SECOND FORM's CARD OF 'stagepostlaw16.CongestionSlowStart'. -/
def congestionSlowStartUptoCard : Claim7 := { stood := { row := congestionSlowStartUptoRow, standIns := [], harness := (true, "28f2043b091b406f8e6b879aca34fbf833315c7c8481d7cab0865d28eeb7b9b6"), looks := true }, kinds := [], alts := [], laidByText := true, laidKinds := [.sentinel], laidTests := true, laidLooks := .later }
def CongestionSlowStartUptoCardSaid : Prop := Claim7.holds Tryd.pinned (.plain (OpenSpec.upto congestionSlowStartSpec)) congestionSlowStartUptoCard

/-- THE SECOND FORM's CARD OF 'stagepostlaw16.CongestionMatchesReference'. -/
def congestionMatchesReferenceUptoCard : Claim7 := { stood := { row := congestionMatchesReferenceUptoRow, standIns := [], harness := (true, "28f2043b091b406f8e6b879aca34fbf833315c7c8481d7cab0865d28eeb7b9b6"), looks := true }, kinds := [], alts := [], laidByText := true, laidKinds := [.sentinel], laidTests := true, laidLooks := .later }
def CongestionMatchesReferenceUptoCardSaid : Prop := Claim7.holds Tryd.pinned (.plain (OpenSpec.upto congestionMatchesReferenceSpec)) congestionMatchesReferenceUptoCard

/-- THE SECOND FORM's CARD OF 'stagepostlaw16.CongestionWindowBounds'. -/
def congestionWindowBoundsUptoCard : Claim7 := { stood := { row := congestionWindowBoundsUptoRow, standIns := [], harness := (true, "28f2043b091b406f8e6b879aca34fbf833315c7c8481d7cab0865d28eeb7b9b6"), looks := true }, kinds := [], alts := [], laidByText := true, laidKinds := [.sentinel], laidTests := true, laidLooks := .later }
def CongestionWindowBoundsUptoCardSaid : Prop := Claim7.holds Tryd.pinned (.plain (OpenSpec.upto congestionWindowBoundsSpec)) congestionWindowBoundsUptoCard

/-- THE SECOND FORM's CARD OF 'stagepostlaw16.CongestionGrowth'. -/
def congestionGrowthUptoCard : Claim7 := { stood := { row := congestionGrowthUptoRow, standIns := [], harness := (true, "28f2043b091b406f8e6b879aca34fbf833315c7c8481d7cab0865d28eeb7b9b6"), looks := true }, kinds := [], alts := [], laidByText := true, laidKinds := [.sentinel], laidTests := true, laidLooks := .later }
def CongestionGrowthUptoCardSaid : Prop := Claim7.holds Tryd.pinned (.plain (OpenSpec.upto congestionGrowthSpec)) congestionGrowthUptoCard

/-- THE SECOND FORM's CARD OF 'stagepostlaw16.CongestionSetMSS'. -/
def congestionSetMSSUptoCard : Claim7 := { stood := { row := congestionSetMSSUptoRow, standIns := [], harness := (true, "28f2043b091b406f8e6b879aca34fbf833315c7c8481d7cab0865d28eeb7b9b6"), looks := true }, kinds := [], alts := [], laidByText := true, laidKinds := [.sentinel], laidTests := true, laidLooks := .later }
def CongestionSetMSSUptoCardSaid : Prop := Claim7.holds Tryd.pinned (.plain (OpenSpec.upto congestionSetMSSSpec)) congestionSetMSSUptoCard
end Rows
end Go.Proofs.YtnjfpkjfacopkaaDoor
