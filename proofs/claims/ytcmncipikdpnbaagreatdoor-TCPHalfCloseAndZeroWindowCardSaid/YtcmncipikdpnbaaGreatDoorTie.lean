/-
  DERIVED. GIVEN WITH THE SEED: THE PROGRAM's TIES (one call each: nine closed facts by the kernel) AND EACH ROW's TIE, after the 31st guide's Derived/Test/Toyas{Tie, Card}.lean. No idea stands in it: it is a product of the set-up. Laid BY PROGRAM, IN A SANDBOX (cutbox-door.mjs). By AI agents, Wed Nov 11 2026. No macro, syntax, notation, axiom, sorry.
-/
import Derived.Test.YtcmncipikdpnbaaGreatDoorRows
import Derived.LaidByTextLater
import Derived.SevenTiedAt
import Derived.LaidSub
import Derived.LaidOnce
namespace Go.Proofs.YtcmncipikdpnbaaGreatDoor
open Go
set_option maxRecDepth 100000
theorem seatTie1 : Tryz.prog.laidByTextLater [("stagepost/tcpstate.triples", Rows.laid_stagepost_tcpstate_triples), ("stagepost/congestion.errSize", Rows.laid_stagepost_congestion_errSize)] [.data, .sentinel] true :=
  Program.laidByTextLater_by_one 49 8 49 (by kernel_rfl) (by kernel_rfl) (by kernel_rfl) (by kernel_rfl) (by kernel_rfl) (by kernel_rfl) (fun _ _ => by kernel_rfl)
theorem noOwnUnsafe : Tryz.pinned.checked.prog.headLifts.contains "ownunsafe" = false := by kernel_rfl
theorem tie : Tryz.prog.laidByTextLater [("stagepost/tcpstate.triples", Rows.laid_stagepost_tcpstate_triples), ("stagepost/congestion.errSize", Rows.laid_stagepost_congestion_errSize)] [.data, .sentinel] true :=
  Program.laidByTextLater.sub seatTie1 ["stagepost/tcpstate.triples", "stagepost/congestion.errSize"] (by kernel_rfl) (by kernel_rfl)
theorem tCPDeliversAll_row_tie : Rows.tCPDeliversAllRow.laidByTextAt .later Tryz.pinned [.data, .sentinel] true :=
  OpenClaim.laidByTextAt_later rfl rfl tie noOwnUnsafe
theorem tCPSimultaneousOpen_row_tie : Rows.tCPSimultaneousOpenRow.laidByTextAt .later Tryz.pinned [.data, .sentinel] true :=
  OpenClaim.laidByTextAt_later rfl rfl tie noOwnUnsafe
theorem tCPReplayedSegments_row_tie : Rows.tCPReplayedSegmentsRow.laidByTextAt .later Tryz.pinned [.data, .sentinel] true :=
  OpenClaim.laidByTextAt_later rfl rfl tie noOwnUnsafe
theorem tCPHalfCloseAndZeroWindow_row_tie : Rows.tCPHalfCloseAndZeroWindowRow.laidByTextAt .later Tryz.pinned [.data, .sentinel] true :=
  OpenClaim.laidByTextAt_later rfl rfl tie noOwnUnsafe
theorem tCPSmallerMSS_row_tie : Rows.tCPSmallerMSSRow.laidByTextAt .later Tryz.pinned [.data, .sentinel] true :=
  OpenClaim.laidByTextAt_later rfl rfl tie noOwnUnsafe
theorem tCPDeliversAllUpto_row_tie : Rows.tCPDeliversAllUptoRow.laidByTextAt .later Tryz.pinned [.data, .sentinel] true :=
  OpenClaim.laidByTextAt_later rfl rfl tie noOwnUnsafe
theorem tCPSimultaneousOpenUpto_row_tie : Rows.tCPSimultaneousOpenUptoRow.laidByTextAt .later Tryz.pinned [.data, .sentinel] true :=
  OpenClaim.laidByTextAt_later rfl rfl tie noOwnUnsafe
theorem tCPReplayedSegmentsUpto_row_tie : Rows.tCPReplayedSegmentsUptoRow.laidByTextAt .later Tryz.pinned [.data, .sentinel] true :=
  OpenClaim.laidByTextAt_later rfl rfl tie noOwnUnsafe
theorem tCPHalfCloseAndZeroWindowUpto_row_tie : Rows.tCPHalfCloseAndZeroWindowUptoRow.laidByTextAt .later Tryz.pinned [.data, .sentinel] true :=
  OpenClaim.laidByTextAt_later rfl rfl tie noOwnUnsafe
theorem tCPSmallerMSSUpto_row_tie : Rows.tCPSmallerMSSUptoRow.laidByTextAt .later Tryz.pinned [.data, .sentinel] true :=
  OpenClaim.laidByTextAt_later rfl rfl tie noOwnUnsafe
end Go.Proofs.YtcmncipikdpnbaaGreatDoor
