/-
  DERIVED. GIVEN WITH THE SEED: THE PROGRAM's TIES (one call each: nine closed facts by the kernel) AND EACH ROW's TIE, after the 31st guide's Derived/Test/Toyas{Tie, Card}.lean. No idea stands in it: it is a product of the set-up. Laid BY PROGRAM, IN A SANDBOX (cutbox-door.mjs). By AI agents, Wed Nov 11 2026. No macro, syntax, notation, axiom, sorry.
-/
import Derived.Test.YtjaoaakljcnmeaaDoorRows
import Derived.LaidByTextLater
import Derived.SevenTiedAt
import Derived.LaidSub
import Derived.LaidOnce
namespace Go.Proofs.YtjaoaakljcnmeaaDoor
open Go
set_option maxRecDepth 100000
theorem seatTie1 : Tryd.prog.laidByTextLater [("errors.errorType", Rows.laid_errors_errorType), ("gutter/unit.errOver", Rows.laid_gutter_unit_errOver), ("gutter/unit.errZero", Rows.laid_gutter_unit_errZero), ("gutter/unit.errText", Rows.laid_gutter_unit_errText)] [.handle, .sentinel, .sentinel, .sentinel] true :=
  Program.laidByTextLater_by_one 73 8 2 (by kernel_rfl) (by kernel_rfl) (by kernel_rfl) (by kernel_rfl) (by kernel_rfl) (by kernel_rfl) (fun _ _ => by kernel_rfl)
theorem noOwnUnsafe : Tryd.pinned.checked.prog.headLifts.contains "ownunsafe" = false := by kernel_rfl
theorem tie : Tryd.prog.laidByTextLater [("errors.errorType", Rows.laid_errors_errorType), ("gutter/unit.errOver", Rows.laid_gutter_unit_errOver), ("gutter/unit.errZero", Rows.laid_gutter_unit_errZero), ("gutter/unit.errText", Rows.laid_gutter_unit_errText)] [.handle, .sentinel, .sentinel, .sentinel] true :=
  Program.laidByTextLater.sub seatTie1 ["errors.errorType", "gutter/unit.errOver", "gutter/unit.errZero", "gutter/unit.errText"] (by kernel_rfl) (by kernel_rfl)
theorem usedApart_row_tie : Rows.usedApartRow.laidByTextAt .later Tryd.pinned [.handle, .sentinel, .sentinel, .sentinel] true :=
  OpenClaim.laidByTextAt_later rfl rfl tie noOwnUnsafe
theorem usedWide_row_tie : Rows.usedWideRow.laidByTextAt .later Tryd.pinned [.handle, .sentinel, .sentinel, .sentinel] true :=
  OpenClaim.laidByTextAt_later rfl rfl tie noOwnUnsafe
theorem usedLefts_row_tie : Rows.usedLeftsRow.laidByTextAt .later Tryd.pinned [.handle, .sentinel, .sentinel, .sentinel] true :=
  OpenClaim.laidByTextAt_later rfl rfl tie noOwnUnsafe
theorem usedFits_row_tie : Rows.usedFitsRow.laidByTextAt .later Tryd.pinned [.handle, .sentinel, .sentinel, .sentinel] true :=
  OpenClaim.laidByTextAt_later rfl rfl tie noOwnUnsafe
theorem usedMore_row_tie : Rows.usedMoreRow.laidByTextAt .later Tryd.pinned [.handle, .sentinel, .sentinel, .sentinel] true :=
  OpenClaim.laidByTextAt_later rfl rfl tie noOwnUnsafe
theorem usedTells_row_tie : Rows.usedTellsRow.laidByTextAt .later Tryd.pinned [.handle, .sentinel, .sentinel, .sentinel] true :=
  OpenClaim.laidByTextAt_later rfl rfl tie noOwnUnsafe
theorem usedSlack_row_tie : Rows.usedSlackRow.laidByTextAt .later Tryd.pinned [.handle, .sentinel, .sentinel, .sentinel] true :=
  OpenClaim.laidByTextAt_later rfl rfl tie noOwnUnsafe
theorem usedApartUpto_row_tie : Rows.usedApartUptoRow.laidByTextAt .later Tryd.pinned [.handle, .sentinel, .sentinel, .sentinel] true :=
  OpenClaim.laidByTextAt_later rfl rfl tie noOwnUnsafe
theorem usedWideUpto_row_tie : Rows.usedWideUptoRow.laidByTextAt .later Tryd.pinned [.handle, .sentinel, .sentinel, .sentinel] true :=
  OpenClaim.laidByTextAt_later rfl rfl tie noOwnUnsafe
theorem usedLeftsUpto_row_tie : Rows.usedLeftsUptoRow.laidByTextAt .later Tryd.pinned [.handle, .sentinel, .sentinel, .sentinel] true :=
  OpenClaim.laidByTextAt_later rfl rfl tie noOwnUnsafe
theorem usedFitsUpto_row_tie : Rows.usedFitsUptoRow.laidByTextAt .later Tryd.pinned [.handle, .sentinel, .sentinel, .sentinel] true :=
  OpenClaim.laidByTextAt_later rfl rfl tie noOwnUnsafe
theorem usedMoreUpto_row_tie : Rows.usedMoreUptoRow.laidByTextAt .later Tryd.pinned [.handle, .sentinel, .sentinel, .sentinel] true :=
  OpenClaim.laidByTextAt_later rfl rfl tie noOwnUnsafe
theorem usedTellsUpto_row_tie : Rows.usedTellsUptoRow.laidByTextAt .later Tryd.pinned [.handle, .sentinel, .sentinel, .sentinel] true :=
  OpenClaim.laidByTextAt_later rfl rfl tie noOwnUnsafe
theorem usedSlackUpto_row_tie : Rows.usedSlackUptoRow.laidByTextAt .later Tryd.pinned [.handle, .sentinel, .sentinel, .sentinel] true :=
  OpenClaim.laidByTextAt_later rfl rfl tie noOwnUnsafe
end Go.Proofs.YtjaoaakljcnmeaaDoor
