/-
  DERIVED. GIVEN WITH THE SEED: THE PROGRAM's TIES (one call each: nine closed facts by the kernel) AND EACH ROW's TIE, after the 31st guide's Derived/Test/Toyas{Tie, Card}.lean. No idea stands in it: it is a product of the set-up. Laid BY PROGRAM, IN A SANDBOX (cutbox-door.mjs). By AI agents, Wed Nov 11 2026. No macro, syntax, notation, axiom, sorry.
-/
import Derived.Test.YtmfhggnlainmiaaGreatDoorRows
import Derived.LaidByTextLater
import Derived.SevenTiedAt
import Derived.LaidSub
import Derived.LaidOnce
namespace Go.Proofs.YtmfhggnlainmiaaGreatDoor
open Go
set_option maxRecDepth 100000
theorem seatTie1 : Tryz.prog.laidByTextLater [("errors.errorType", Rows.laid_errors_errorType), ("kenning/canon.codes", Rows.laid_kenning_canon_codes)] [.handle, .data] true :=
  Program.laidByTextLater_by_one 21 8 5 (by kernel_rfl) (by kernel_rfl) (by kernel_rfl) (by kernel_rfl) (by kernel_rfl) (by kernel_rfl) (fun _ _ => by kernel_rfl)
theorem noOwnUnsafe : Tryz.pinned.checked.prog.headLifts.contains "ownunsafe" = false := by kernel_rfl
theorem tie : Tryz.prog.laidByTextLater [("errors.errorType", Rows.laid_errors_errorType)] [.handle] true :=
  Program.laidByTextLater.sub seatTie1 ["errors.errorType"] (by kernel_rfl) (by kernel_rfl)
theorem topAgrees_row_tie : Rows.topAgreesRow.laidByTextAt .later Tryz.pinned [.handle] true :=
  OpenClaim.laidByTextAt_later rfl rfl tie noOwnUnsafe
theorem topStreams_row_tie : Rows.topStreamsRow.laidByTextAt .later Tryz.pinned [.handle] true :=
  OpenClaim.laidByTextAt_later rfl rfl tie noOwnUnsafe
theorem frameEncodes_row_tie : Rows.frameEncodesRow.laidByTextAt .later Tryz.pinned [.handle] true :=
  OpenClaim.laidByTextAt_later rfl rfl tie noOwnUnsafe
theorem wireSteps_row_tie : Rows.wireStepsRow.laidByTextAt .later Tryz.pinned [.handle] true :=
  OpenClaim.laidByTextAt_later rfl rfl tie noOwnUnsafe
theorem streamChunks_row_tie : Rows.streamChunksRow.laidByTextAt .later Tryz.pinned [.handle] true :=
  OpenClaim.laidByTextAt_later rfl rfl tie noOwnUnsafe
theorem streamSteps_row_tie : Rows.streamStepsRow.laidByTextAt .later Tryz.pinned [.handle] true :=
  OpenClaim.laidByTextAt_later rfl rfl tie noOwnUnsafe
theorem streamRests_row_tie : Rows.streamRestsRow.laidByTextAt .later Tryz.pinned [.handle] true :=
  OpenClaim.laidByTextAt_later rfl rfl tie noOwnUnsafe
theorem oneshotReads_row_tie : Rows.oneshotReadsRow.laidByTextAt .later Tryz.pinned [.handle] true :=
  OpenClaim.laidByTextAt_later rfl rfl tie noOwnUnsafe
theorem oneshotStops_row_tie : Rows.oneshotStopsRow.laidByTextAt .later Tryz.pinned [.handle] true :=
  OpenClaim.laidByTextAt_later rfl rfl tie noOwnUnsafe
theorem streamPrefixes_row_tie : Rows.streamPrefixesRow.laidByTextAt .later Tryz.pinned [.handle] true :=
  OpenClaim.laidByTextAt_later rfl rfl tie noOwnUnsafe
theorem tie2 : Tryz.prog.laidByTextLater [("errors.errorType", Rows.laid_errors_errorType), ("kenning/canon.codes", Rows.laid_kenning_canon_codes)] [.handle, .data] true :=
  Program.laidByTextLater.sub seatTie1 ["errors.errorType", "kenning/canon.codes"] (by kernel_rfl) (by kernel_rfl)
theorem oneshotOnce_row_tie : Rows.oneshotOnceRow.laidByTextAt .later Tryz.pinned [.handle, .data] true :=
  OpenClaim.laidByTextAt_later rfl rfl tie2 noOwnUnsafe
theorem topAgreesUpto_row_tie : Rows.topAgreesUptoRow.laidByTextAt .later Tryz.pinned [.handle] true :=
  OpenClaim.laidByTextAt_later rfl rfl tie noOwnUnsafe
theorem topStreamsUpto_row_tie : Rows.topStreamsUptoRow.laidByTextAt .later Tryz.pinned [.handle] true :=
  OpenClaim.laidByTextAt_later rfl rfl tie noOwnUnsafe
theorem frameEncodesUpto_row_tie : Rows.frameEncodesUptoRow.laidByTextAt .later Tryz.pinned [.handle] true :=
  OpenClaim.laidByTextAt_later rfl rfl tie noOwnUnsafe
theorem wireStepsUpto_row_tie : Rows.wireStepsUptoRow.laidByTextAt .later Tryz.pinned [.handle] true :=
  OpenClaim.laidByTextAt_later rfl rfl tie noOwnUnsafe
theorem streamChunksUpto_row_tie : Rows.streamChunksUptoRow.laidByTextAt .later Tryz.pinned [.handle] true :=
  OpenClaim.laidByTextAt_later rfl rfl tie noOwnUnsafe
theorem streamStepsUpto_row_tie : Rows.streamStepsUptoRow.laidByTextAt .later Tryz.pinned [.handle] true :=
  OpenClaim.laidByTextAt_later rfl rfl tie noOwnUnsafe
theorem streamRestsUpto_row_tie : Rows.streamRestsUptoRow.laidByTextAt .later Tryz.pinned [.handle] true :=
  OpenClaim.laidByTextAt_later rfl rfl tie noOwnUnsafe
theorem oneshotReadsUpto_row_tie : Rows.oneshotReadsUptoRow.laidByTextAt .later Tryz.pinned [.handle] true :=
  OpenClaim.laidByTextAt_later rfl rfl tie noOwnUnsafe
theorem oneshotStopsUpto_row_tie : Rows.oneshotStopsUptoRow.laidByTextAt .later Tryz.pinned [.handle] true :=
  OpenClaim.laidByTextAt_later rfl rfl tie noOwnUnsafe
theorem oneshotOnceUpto_row_tie : Rows.oneshotOnceUptoRow.laidByTextAt .later Tryz.pinned [.handle, .data] true :=
  OpenClaim.laidByTextAt_later rfl rfl tie2 noOwnUnsafe
theorem streamPrefixesUpto_row_tie : Rows.streamPrefixesUptoRow.laidByTextAt .later Tryz.pinned [.handle] true :=
  OpenClaim.laidByTextAt_later rfl rfl tie noOwnUnsafe
end Go.Proofs.YtmfhggnlainmiaaGreatDoor
