/-
  DERIVED. GIVEN WITH THE SEED: THE PROGRAM's TIES (one call each: nine closed facts by the kernel) AND EACH ROW's TIE, after the 31st guide's Derived/Test/Toyas{Tie, Card}.lean. No idea stands in it: it is a product of the set-up. Laid BY PROGRAM, IN A SANDBOX (cutbox-door.mjs). By AI agents, Wed Nov 11 2026. No macro, syntax, notation, axiom, sorry.
-/
import Derived.Test.YtnchhniadacjfaaDoorRows
import Derived.LaidByTextLater
import Derived.SevenTiedAt
import Derived.LaidSub
import Derived.LaidOnce
namespace Go.Proofs.YtnchhniadacjfaaDoor
open Go
set_option maxRecDepth 100000
theorem seatTie1 : Tryd.prog.laidByTextLater [("stagepost/tcpstate.triples", Rows.laid_stagepost_tcpstate_triples), ("stagepost/tcpstate.names", Rows.laid_stagepost_tcpstate_names)] [.data, .data] true :=
  Program.laidByTextLater_by_one 35 8 49 (by kernel_rfl) (by kernel_rfl) (by kernel_rfl) (by kernel_rfl) (by kernel_rfl) (by kernel_rfl) (fun _ _ => by kernel_rfl)
theorem noOwnUnsafe : Tryd.pinned.checked.prog.headLifts.contains "ownunsafe" = false := by kernel_rfl
theorem tie : Tryd.prog.laidByTextLater [("stagepost/tcpstate.triples", Rows.laid_stagepost_tcpstate_triples), ("stagepost/tcpstate.names", Rows.laid_stagepost_tcpstate_names)] [.data, .data] true :=
  Program.laidByTextLater.sub seatTie1 ["stagepost/tcpstate.triples", "stagepost/tcpstate.names"] (by kernel_rfl) (by kernel_rfl)
theorem tCPStateMatchesReference_row_tie : Rows.tCPStateMatchesReferenceRow.laidByTextAt .later Tryd.pinned [.data, .data] true :=
  OpenClaim.laidByTextAt_later rfl rfl tie noOwnUnsafe
theorem tCPStateProgress_row_tie : Rows.tCPStateProgressRow.laidByTextAt .later Tryd.pinned [.data, .data] true :=
  OpenClaim.laidByTextAt_later rfl rfl tie noOwnUnsafe
theorem tCPStateHalfClose_row_tie : Rows.tCPStateHalfCloseRow.laidByTextAt .later Tryd.pinned [.data, .data] true :=
  OpenClaim.laidByTextAt_later rfl rfl tie noOwnUnsafe
theorem tCPStateCloseOrders_row_tie : Rows.tCPStateCloseOrdersRow.laidByTextAt .later Tryd.pinned [.data, .data] true :=
  OpenClaim.laidByTextAt_later rfl rfl tie noOwnUnsafe
theorem tCPStateOpens_row_tie : Rows.tCPStateOpensRow.laidByTextAt .later Tryd.pinned [.data, .data] true :=
  OpenClaim.laidByTextAt_later rfl rfl tie noOwnUnsafe
theorem tCPStateMatchesReferenceUpto_row_tie : Rows.tCPStateMatchesReferenceUptoRow.laidByTextAt .later Tryd.pinned [.data, .data] true :=
  OpenClaim.laidByTextAt_later rfl rfl tie noOwnUnsafe
theorem tCPStateProgressUpto_row_tie : Rows.tCPStateProgressUptoRow.laidByTextAt .later Tryd.pinned [.data, .data] true :=
  OpenClaim.laidByTextAt_later rfl rfl tie noOwnUnsafe
theorem tCPStateHalfCloseUpto_row_tie : Rows.tCPStateHalfCloseUptoRow.laidByTextAt .later Tryd.pinned [.data, .data] true :=
  OpenClaim.laidByTextAt_later rfl rfl tie noOwnUnsafe
theorem tCPStateCloseOrdersUpto_row_tie : Rows.tCPStateCloseOrdersUptoRow.laidByTextAt .later Tryd.pinned [.data, .data] true :=
  OpenClaim.laidByTextAt_later rfl rfl tie noOwnUnsafe
theorem tCPStateOpensUpto_row_tie : Rows.tCPStateOpensUptoRow.laidByTextAt .later Tryd.pinned [.data, .data] true :=
  OpenClaim.laidByTextAt_later rfl rfl tie noOwnUnsafe
end Go.Proofs.YtnchhniadacjfaaDoor
