/-
  DERIVED. GIVEN WITH THE SEED: THE PROGRAM's TIES (one call each: nine closed facts by the kernel) AND EACH ROW's TIE, after the 31st guide's Derived/Test/Toyas{Tie, Card}.lean. No idea stands in it: it is a product of the set-up. Laid BY PROGRAM, IN A SANDBOX (cutbox-door.mjs). By AI agents, Wed Nov 11 2026. No macro, syntax, notation, axiom, sorry.
-/
import Derived.Test.YtclkcmidhhfdmaaGreatDoorRows
import Derived.LaidByTextLater
import Derived.SevenTiedAt
import Derived.LaidSub
import Derived.LaidOnce
namespace Go.Proofs.YtclkcmidhhfdmaaGreatDoor
open Go
set_option maxRecDepth 100000
theorem seatTie1 : Tryz.prog.laidByTextLater [("stagepost/tcpstate.triples", Rows.laid_stagepost_tcpstate_triples), ("stagepost/congestion.errSize", Rows.laid_stagepost_congestion_errSize)] [.data, .sentinel] true :=
  Program.laidByTextLater_by_one 49 8 49 (by kernel_rfl) (by kernel_rfl) (by kernel_rfl) (by kernel_rfl) (by kernel_rfl) (by kernel_rfl) (fun _ _ => by kernel_rfl)
theorem noOwnUnsafe : Tryz.pinned.checked.prog.headLifts.contains "ownunsafe" = false := by kernel_rfl
theorem tie : Tryz.prog.laidByTextLater [("stagepost/tcpstate.triples", Rows.laid_stagepost_tcpstate_triples), ("stagepost/congestion.errSize", Rows.laid_stagepost_congestion_errSize)] [.data, .sentinel] true :=
  Program.laidByTextLater.sub seatTie1 ["stagepost/tcpstate.triples", "stagepost/congestion.errSize"] (by kernel_rfl) (by kernel_rfl)
theorem tCPDeliversPrefix_row_tie : Rows.tCPDeliversPrefixRow.laidByTextAt .later Tryz.pinned [.data, .sentinel] true :=
  OpenClaim.laidByTextAt_later rfl rfl tie noOwnUnsafe
theorem tCPSequenceShift_row_tie : Rows.tCPSequenceShiftRow.laidByTextAt .later Tryz.pinned [.data, .sentinel] true :=
  OpenClaim.laidByTextAt_later rfl rfl tie noOwnUnsafe
theorem tCPRespectsLimits_row_tie : Rows.tCPRespectsLimitsRow.laidByTextAt .later Tryz.pinned [.data, .sentinel] true :=
  OpenClaim.laidByTextAt_later rfl rfl tie noOwnUnsafe
theorem tCPResetReplies_row_tie : Rows.tCPResetRepliesRow.laidByTextAt .later Tryz.pinned [.data, .sentinel] true :=
  OpenClaim.laidByTextAt_later rfl rfl tie noOwnUnsafe
theorem tCPSimultaneousOpen_row_tie : Rows.tCPSimultaneousOpenRow.laidByTextAt .later Tryz.pinned [.data, .sentinel] true :=
  OpenClaim.laidByTextAt_later rfl rfl tie noOwnUnsafe
theorem tCPSynRetransmission_row_tie : Rows.tCPSynRetransmissionRow.laidByTextAt .later Tryz.pinned [.data, .sentinel] true :=
  OpenClaim.laidByTextAt_later rfl rfl tie noOwnUnsafe
theorem tCPReplayedSegments_row_tie : Rows.tCPReplayedSegmentsRow.laidByTextAt .later Tryz.pinned [.data, .sentinel] true :=
  OpenClaim.laidByTextAt_later rfl rfl tie noOwnUnsafe
theorem tCPStateTransitions_row_tie : Rows.tCPStateTransitionsRow.laidByTextAt .later Tryz.pinned [.data, .sentinel] true :=
  OpenClaim.laidByTextAt_later rfl rfl tie noOwnUnsafe
theorem tCPBlindSegments_row_tie : Rows.tCPBlindSegmentsRow.laidByTextAt .later Tryz.pinned [.data, .sentinel] true :=
  OpenClaim.laidByTextAt_later rfl rfl tie noOwnUnsafe
theorem tCPHalfCloseAndZeroWindow_row_tie : Rows.tCPHalfCloseAndZeroWindowRow.laidByTextAt .later Tryz.pinned [.data, .sentinel] true :=
  OpenClaim.laidByTextAt_later rfl rfl tie noOwnUnsafe
theorem tCPSmallerMSS_row_tie : Rows.tCPSmallerMSSRow.laidByTextAt .later Tryz.pinned [.data, .sentinel] true :=
  OpenClaim.laidByTextAt_later rfl rfl tie noOwnUnsafe
theorem tCPSegmentsEncode_row_tie : Rows.tCPSegmentsEncodeRow.laidByTextAt .later Tryz.pinned [.data, .sentinel] true :=
  OpenClaim.laidByTextAt_later rfl rfl tie noOwnUnsafe
theorem tCPDeliversPrefixUpto_row_tie : Rows.tCPDeliversPrefixUptoRow.laidByTextAt .later Tryz.pinned [.data, .sentinel] true :=
  OpenClaim.laidByTextAt_later rfl rfl tie noOwnUnsafe
theorem tCPSequenceShiftUpto_row_tie : Rows.tCPSequenceShiftUptoRow.laidByTextAt .later Tryz.pinned [.data, .sentinel] true :=
  OpenClaim.laidByTextAt_later rfl rfl tie noOwnUnsafe
theorem tCPRespectsLimitsUpto_row_tie : Rows.tCPRespectsLimitsUptoRow.laidByTextAt .later Tryz.pinned [.data, .sentinel] true :=
  OpenClaim.laidByTextAt_later rfl rfl tie noOwnUnsafe
theorem tCPResetRepliesUpto_row_tie : Rows.tCPResetRepliesUptoRow.laidByTextAt .later Tryz.pinned [.data, .sentinel] true :=
  OpenClaim.laidByTextAt_later rfl rfl tie noOwnUnsafe
theorem tCPSimultaneousOpenUpto_row_tie : Rows.tCPSimultaneousOpenUptoRow.laidByTextAt .later Tryz.pinned [.data, .sentinel] true :=
  OpenClaim.laidByTextAt_later rfl rfl tie noOwnUnsafe
theorem tCPSynRetransmissionUpto_row_tie : Rows.tCPSynRetransmissionUptoRow.laidByTextAt .later Tryz.pinned [.data, .sentinel] true :=
  OpenClaim.laidByTextAt_later rfl rfl tie noOwnUnsafe
theorem tCPReplayedSegmentsUpto_row_tie : Rows.tCPReplayedSegmentsUptoRow.laidByTextAt .later Tryz.pinned [.data, .sentinel] true :=
  OpenClaim.laidByTextAt_later rfl rfl tie noOwnUnsafe
theorem tCPStateTransitionsUpto_row_tie : Rows.tCPStateTransitionsUptoRow.laidByTextAt .later Tryz.pinned [.data, .sentinel] true :=
  OpenClaim.laidByTextAt_later rfl rfl tie noOwnUnsafe
theorem tCPBlindSegmentsUpto_row_tie : Rows.tCPBlindSegmentsUptoRow.laidByTextAt .later Tryz.pinned [.data, .sentinel] true :=
  OpenClaim.laidByTextAt_later rfl rfl tie noOwnUnsafe
theorem tCPHalfCloseAndZeroWindowUpto_row_tie : Rows.tCPHalfCloseAndZeroWindowUptoRow.laidByTextAt .later Tryz.pinned [.data, .sentinel] true :=
  OpenClaim.laidByTextAt_later rfl rfl tie noOwnUnsafe
theorem tCPSmallerMSSUpto_row_tie : Rows.tCPSmallerMSSUptoRow.laidByTextAt .later Tryz.pinned [.data, .sentinel] true :=
  OpenClaim.laidByTextAt_later rfl rfl tie noOwnUnsafe
theorem tCPSegmentsEncodeUpto_row_tie : Rows.tCPSegmentsEncodeUptoRow.laidByTextAt .later Tryz.pinned [.data, .sentinel] true :=
  OpenClaim.laidByTextAt_later rfl rfl tie noOwnUnsafe
end Go.Proofs.YtclkcmidhhfdmaaGreatDoor
