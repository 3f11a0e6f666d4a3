/-
  DERIVED. GIVEN WITH THE SEED: THE PROGRAM's TIES (one call each: nine closed facts by the kernel) AND EACH ROW's TIE, after the 31st guide's Derived/Test/Toyas{Tie, Card}.lean. No idea stands in it: it is a product of the set-up. Laid BY PROGRAM, IN A SANDBOX (cutbox-door.mjs). By AI agents, Wed Nov 11 2026. No macro, syntax, notation, axiom, sorry.
-/
import Derived.Test.YtnllfppkfdnjpaaDoorRows
import Derived.LaidByTextLater
import Derived.SevenTiedAt
import Derived.LaidSub
import Derived.LaidOnce
namespace Go.Proofs.YtnllfppkfdnjpaaDoor
open Go
set_option maxRecDepth 100000
theorem seatTie1 : Tryd.prog.laidByTextLater [("slotcode/ops.none", Rows.laid_slotcode_ops_none), ("slotcode/num.widths", Rows.laid_slotcode_num_widths)] [.data, .widerDeep] true :=
  Program.laidByTextLater_by_one 19 8 8 (by kernel_rfl) (by kernel_rfl) (by kernel_rfl) (by kernel_rfl) (by kernel_rfl) (by kernel_rfl) (fun _ _ => by kernel_rfl)
theorem noOwnUnsafe : Tryd.pinned.checked.prog.headLifts.contains "ownunsafe" = false := by kernel_rfl
theorem tie : Tryd.prog.laidByTextLater [("slotcode/ops.none", Rows.laid_slotcode_ops_none), ("slotcode/num.widths", Rows.laid_slotcode_num_widths)] [.data, .widerDeep] true :=
  Program.laidByTextLater.sub seatTie1 ["slotcode/ops.none", "slotcode/num.widths"] (by kernel_rfl) (by kernel_rfl)
theorem insnUses_row_tie : Rows.insnUsesRow.laidByTextAt .later Tryd.pinned [.data, .widerDeep] true :=
  OpenClaim.laidByTextAt_later rfl rfl tie noOwnUnsafe
theorem insnChecks_row_tie : Rows.insnChecksRow.laidByTextAt .later Tryd.pinned [.data, .widerDeep] true :=
  OpenClaim.laidByTextAt_later rfl rfl tie noOwnUnsafe
theorem insnSlots_row_tie : Rows.insnSlotsRow.laidByTextAt .later Tryd.pinned [.data, .widerDeep] true :=
  OpenClaim.laidByTextAt_later rfl rfl tie noOwnUnsafe
theorem insnEnds_row_tie : Rows.insnEndsRow.laidByTextAt .later Tryd.pinned [.data, .widerDeep] true :=
  OpenClaim.laidByTextAt_later rfl rfl tie noOwnUnsafe
theorem insnZero_row_tie : Rows.insnZeroRow.laidByTextAt .later Tryd.pinned [.data, .widerDeep] true :=
  OpenClaim.laidByTextAt_later rfl rfl tie noOwnUnsafe
theorem insnWrites_row_tie : Rows.insnWritesRow.laidByTextAt .later Tryd.pinned [.data, .widerDeep] true :=
  OpenClaim.laidByTextAt_later rfl rfl tie noOwnUnsafe
theorem condHolds_row_tie : Rows.condHoldsRow.laidByTextAt .later Tryd.pinned [.data, .widerDeep] true :=
  OpenClaim.laidByTextAt_later rfl rfl tie noOwnUnsafe
theorem condPairs_row_tie : Rows.condPairsRow.laidByTextAt .later Tryd.pinned [.data, .widerDeep] true :=
  OpenClaim.laidByTextAt_later rfl rfl tie noOwnUnsafe
theorem condOpposite_row_tie : Rows.condOppositeRow.laidByTextAt .later Tryd.pinned [.data, .widerDeep] true :=
  OpenClaim.laidByTextAt_later rfl rfl tie noOwnUnsafe
theorem condMirror_row_tie : Rows.condMirrorRow.laidByTextAt .later Tryd.pinned [.data, .widerDeep] true :=
  OpenClaim.laidByTextAt_later rfl rfl tie noOwnUnsafe
theorem condOrder_row_tie : Rows.condOrderRow.laidByTextAt .later Tryd.pinned [.data, .widerDeep] true :=
  OpenClaim.laidByTextAt_later rfl rfl tie noOwnUnsafe
theorem condLow_row_tie : Rows.condLowRow.laidByTextAt .later Tryd.pinned [.data, .widerDeep] true :=
  OpenClaim.laidByTextAt_later rfl rfl tie noOwnUnsafe
theorem insnUsesUpto_row_tie : Rows.insnUsesUptoRow.laidByTextAt .later Tryd.pinned [.data, .widerDeep] true :=
  OpenClaim.laidByTextAt_later rfl rfl tie noOwnUnsafe
theorem insnChecksUpto_row_tie : Rows.insnChecksUptoRow.laidByTextAt .later Tryd.pinned [.data, .widerDeep] true :=
  OpenClaim.laidByTextAt_later rfl rfl tie noOwnUnsafe
theorem insnSlotsUpto_row_tie : Rows.insnSlotsUptoRow.laidByTextAt .later Tryd.pinned [.data, .widerDeep] true :=
  OpenClaim.laidByTextAt_later rfl rfl tie noOwnUnsafe
theorem insnEndsUpto_row_tie : Rows.insnEndsUptoRow.laidByTextAt .later Tryd.pinned [.data, .widerDeep] true :=
  OpenClaim.laidByTextAt_later rfl rfl tie noOwnUnsafe
theorem insnZeroUpto_row_tie : Rows.insnZeroUptoRow.laidByTextAt .later Tryd.pinned [.data, .widerDeep] true :=
  OpenClaim.laidByTextAt_later rfl rfl tie noOwnUnsafe
theorem insnWritesUpto_row_tie : Rows.insnWritesUptoRow.laidByTextAt .later Tryd.pinned [.data, .widerDeep] true :=
  OpenClaim.laidByTextAt_later rfl rfl tie noOwnUnsafe
theorem condHoldsUpto_row_tie : Rows.condHoldsUptoRow.laidByTextAt .later Tryd.pinned [.data, .widerDeep] true :=
  OpenClaim.laidByTextAt_later rfl rfl tie noOwnUnsafe
theorem condPairsUpto_row_tie : Rows.condPairsUptoRow.laidByTextAt .later Tryd.pinned [.data, .widerDeep] true :=
  OpenClaim.laidByTextAt_later rfl rfl tie noOwnUnsafe
theorem condOppositeUpto_row_tie : Rows.condOppositeUptoRow.laidByTextAt .later Tryd.pinned [.data, .widerDeep] true :=
  OpenClaim.laidByTextAt_later rfl rfl tie noOwnUnsafe
theorem condMirrorUpto_row_tie : Rows.condMirrorUptoRow.laidByTextAt .later Tryd.pinned [.data, .widerDeep] true :=
  OpenClaim.laidByTextAt_later rfl rfl tie noOwnUnsafe
theorem condOrderUpto_row_tie : Rows.condOrderUptoRow.laidByTextAt .later Tryd.pinned [.data, .widerDeep] true :=
  OpenClaim.laidByTextAt_later rfl rfl tie noOwnUnsafe
theorem condLowUpto_row_tie : Rows.condLowUptoRow.laidByTextAt .later Tryd.pinned [.data, .widerDeep] true :=
  OpenClaim.laidByTextAt_later rfl rfl tie noOwnUnsafe
end Go.Proofs.YtnllfppkfdnjpaaDoor
