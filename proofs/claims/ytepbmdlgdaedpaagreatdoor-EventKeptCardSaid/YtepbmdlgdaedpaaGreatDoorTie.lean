/-
  DERIVED. GIVEN WITH THE SEED: THE PROGRAM's TIES (one call each: nine closed facts by the kernel) AND EACH ROW's TIE, after the 31st guide's Derived/Test/Toyas{Tie, Card}.lean. No idea stands in it: it is a product of the set-up. Laid BY PROGRAM, IN A SANDBOX (cutbox-door.mjs). By AI agents, Wed Nov 11 2026. No macro, syntax, notation, axiom, sorry.
-/
import Derived.Test.YtepbmdlgdaedpaaGreatDoorRows
import Derived.LaidByTextLater
import Derived.SevenTiedAt
import Derived.LaidSub
import Derived.LaidOnce
namespace Go.Proofs.YtepbmdlgdaedpaaGreatDoor
open Go
set_option maxRecDepth 100000
theorem seatTie1 : Tryz.prog.laidByTextLater [("docket/docketref9.reserved", Rows.laid_docket_docketref9_reserved), ("docket/digest.round", Rows.laid_docket_digest_round), ("docket/text.reserved", Rows.laid_docket_text_reserved)] [.data, .data, .data] true :=
  Program.laidByTextLater_by_one 24 8 65 (by kernel_rfl) (by kernel_rfl) (by kernel_rfl) (by kernel_rfl) (by kernel_rfl) (by kernel_rfl) (fun _ _ => by kernel_rfl)
theorem noOwnUnsafe : Tryz.pinned.checked.prog.headLifts.contains "ownunsafe" = false := by kernel_rfl
theorem tie : Tryz.prog.laidByTextLater [("docket/docketref9.reserved", Rows.laid_docket_docketref9_reserved), ("docket/text.reserved", Rows.laid_docket_text_reserved)] [.data, .data] true :=
  Program.laidByTextLater.sub seatTie1 ["docket/docketref9.reserved", "docket/text.reserved"] (by kernel_rfl) (by kernel_rfl)
theorem eventEncodes_row_tie : Rows.eventEncodesRow.laidByTextAt .later Tryz.pinned [.data, .data] true :=
  OpenClaim.laidByTextAt_later rfl rfl tie noOwnUnsafe
theorem eventDecodes_row_tie : Rows.eventDecodesRow.laidByTextAt .later Tryz.pinned [.data, .data] true :=
  OpenClaim.laidByTextAt_later rfl rfl tie noOwnUnsafe
theorem tie2 : Tryz.prog.laidByTextLater [("docket/text.reserved", Rows.laid_docket_text_reserved)] [.data] true :=
  Program.laidByTextLater.sub seatTie1 ["docket/text.reserved"] (by kernel_rfl) (by kernel_rfl)
theorem eventBack_row_tie : Rows.eventBackRow.laidByTextAt .later Tryz.pinned [.data] true :=
  OpenClaim.laidByTextAt_later rfl rfl tie2 noOwnUnsafe
theorem eventApart_row_tie : Rows.eventApartRow.laidByTextAt .later Tryz.pinned [.data] true :=
  OpenClaim.laidByTextAt_later rfl rfl tie2 noOwnUnsafe
theorem eventTells_row_tie : Rows.eventTellsRow.laidByTextAt .later Tryz.pinned [.data] true :=
  OpenClaim.laidByTextAt_later rfl rfl tie2 noOwnUnsafe
theorem eventOrders_row_tie : Rows.eventOrdersRow.laidByTextAt .later Tryz.pinned [.data] true :=
  OpenClaim.laidByTextAt_later rfl rfl tie2 noOwnUnsafe
theorem eventKept_row_tie : Rows.eventKeptRow.laidByTextAt .later Tryz.pinned [.data] true :=
  OpenClaim.laidByTextAt_later rfl rfl tie2 noOwnUnsafe
theorem eventValues_row_tie : Rows.eventValuesRow.laidByTextAt .later Tryz.pinned [.data] true :=
  OpenClaim.laidByTextAt_later rfl rfl tie2 noOwnUnsafe
theorem tie3 : Tryz.prog.laidByTextLater [("docket/docketref9.reserved", Rows.laid_docket_docketref9_reserved), ("docket/digest.round", Rows.laid_docket_digest_round), ("docket/text.reserved", Rows.laid_docket_text_reserved)] [.data, .data, .data] true :=
  Program.laidByTextLater.sub seatTie1 ["docket/docketref9.reserved", "docket/digest.round", "docket/text.reserved"] (by kernel_rfl) (by kernel_rfl)
theorem eventStates_row_tie : Rows.eventStatesRow.laidByTextAt .later Tryz.pinned [.data, .data, .data] true :=
  OpenClaim.laidByTextAt_later rfl rfl tie3 noOwnUnsafe
theorem eventTables_row_tie : Rows.eventTablesRow.laidByTextAt .later Tryz.pinned [.data, .data, .data] true :=
  OpenClaim.laidByTextAt_later rfl rfl tie3 noOwnUnsafe
theorem tie4 : Tryz.prog.laidByTextLater [("docket/digest.round", Rows.laid_docket_digest_round), ("docket/text.reserved", Rows.laid_docket_text_reserved)] [.data, .data] true :=
  Program.laidByTextLater.sub seatTie1 ["docket/digest.round", "docket/text.reserved"] (by kernel_rfl) (by kernel_rfl)
theorem eventChains_row_tie : Rows.eventChainsRow.laidByTextAt .later Tryz.pinned [.data, .data] true :=
  OpenClaim.laidByTextAt_later rfl rfl tie4 noOwnUnsafe
theorem eventEncodesUpto_row_tie : Rows.eventEncodesUptoRow.laidByTextAt .later Tryz.pinned [.data, .data] true :=
  OpenClaim.laidByTextAt_later rfl rfl tie noOwnUnsafe
theorem eventDecodesUpto_row_tie : Rows.eventDecodesUptoRow.laidByTextAt .later Tryz.pinned [.data, .data] true :=
  OpenClaim.laidByTextAt_later rfl rfl tie noOwnUnsafe
theorem eventBackUpto_row_tie : Rows.eventBackUptoRow.laidByTextAt .later Tryz.pinned [.data] true :=
  OpenClaim.laidByTextAt_later rfl rfl tie2 noOwnUnsafe
theorem eventApartUpto_row_tie : Rows.eventApartUptoRow.laidByTextAt .later Tryz.pinned [.data] true :=
  OpenClaim.laidByTextAt_later rfl rfl tie2 noOwnUnsafe
theorem eventTellsUpto_row_tie : Rows.eventTellsUptoRow.laidByTextAt .later Tryz.pinned [.data] true :=
  OpenClaim.laidByTextAt_later rfl rfl tie2 noOwnUnsafe
theorem eventOrdersUpto_row_tie : Rows.eventOrdersUptoRow.laidByTextAt .later Tryz.pinned [.data] true :=
  OpenClaim.laidByTextAt_later rfl rfl tie2 noOwnUnsafe
theorem eventKeptUpto_row_tie : Rows.eventKeptUptoRow.laidByTextAt .later Tryz.pinned [.data] true :=
  OpenClaim.laidByTextAt_later rfl rfl tie2 noOwnUnsafe
theorem eventValuesUpto_row_tie : Rows.eventValuesUptoRow.laidByTextAt .later Tryz.pinned [.data] true :=
  OpenClaim.laidByTextAt_later rfl rfl tie2 noOwnUnsafe
theorem eventStatesUpto_row_tie : Rows.eventStatesUptoRow.laidByTextAt .later Tryz.pinned [.data, .data, .data] true :=
  OpenClaim.laidByTextAt_later rfl rfl tie3 noOwnUnsafe
theorem eventTablesUpto_row_tie : Rows.eventTablesUptoRow.laidByTextAt .later Tryz.pinned [.data, .data, .data] true :=
  OpenClaim.laidByTextAt_later rfl rfl tie3 noOwnUnsafe
theorem eventChainsUpto_row_tie : Rows.eventChainsUptoRow.laidByTextAt .later Tryz.pinned [.data, .data] true :=
  OpenClaim.laidByTextAt_later rfl rfl tie4 noOwnUnsafe
end Go.Proofs.YtepbmdlgdaedpaaGreatDoor
