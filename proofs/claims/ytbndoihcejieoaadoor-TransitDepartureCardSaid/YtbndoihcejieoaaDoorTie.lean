/-
  DERIVED. GIVEN WITH THE SEED: THE PROGRAM's TIES (one call each: nine closed facts by the kernel) AND EACH ROW's TIE, after the 31st guide's Derived/Test/Toyas{Tie, Card}.lean. No idea stands in it: it is a product of the set-up. Laid BY PROGRAM, IN A SANDBOX (cutbox-door.mjs). By AI agents, Wed Nov 11 2026. No macro, syntax, notation, axiom, sorry.
-/
import Derived.Test.YtbndoihcejieoaaDoorRows
import Derived.LaidByTextLater
import Derived.SevenTiedAt
import Derived.LaidSub
import Derived.LaidOnce
namespace Go.Proofs.YtbndoihcejieoaaDoor
open Go
set_option maxRecDepth 100000
theorem seatTie1 : Tryd.prog.laidByTextLater [("customs/calendar.lengths", Rows.laid_customs_calendar_lengths), ("customs/transit.changes", Rows.laid_customs_transit_changes)] [.data, .data] true :=
  Program.laidByTextLater_by_one 29 8 16 (by kernel_rfl) (by kernel_rfl) (by kernel_rfl) (by kernel_rfl) (by kernel_rfl) (by kernel_rfl) (fun _ _ => by kernel_rfl)
theorem noOwnUnsafe : Tryd.pinned.checked.prog.headLifts.contains "ownunsafe" = false := by kernel_rfl
theorem tie : Tryd.prog.laidByTextLater [("customs/transit.changes", Rows.laid_customs_transit_changes)] [.data] true :=
  Program.laidByTextLater.sub seatTie1 ["customs/transit.changes"] (by kernel_rfl) (by kernel_rfl)
theorem transitArrival_row_tie : Rows.transitArrivalRow.laidByTextAt .later Tryd.pinned [.data] true :=
  OpenClaim.laidByTextAt_later rfl rfl tie noOwnUnsafe
theorem transitOneEnd_row_tie : Rows.transitOneEndRow.laidByTextAt .later Tryd.pinned [.data] true :=
  OpenClaim.laidByTextAt_later rfl rfl tie noOwnUnsafe
theorem transitSeals_row_tie : Rows.transitSealsRow.laidByTextAt .later Tryd.pinned [.data] true :=
  OpenClaim.laidByTextAt_later rfl rfl tie noOwnUnsafe
theorem transitBelief_row_tie : Rows.transitBeliefRow.laidByTextAt .later Tryd.pinned [.data] true :=
  OpenClaim.laidByTextAt_later rfl rfl tie noOwnUnsafe
theorem tie2 : Tryd.prog.laidByTextLater [("customs/calendar.lengths", Rows.laid_customs_calendar_lengths), ("customs/transit.changes", Rows.laid_customs_transit_changes)] [.data, .data] true :=
  Program.laidByTextLater.sub seatTie1 ["customs/calendar.lengths", "customs/transit.changes"] (by kernel_rfl) (by kernel_rfl)
theorem transitDeparture_row_tie : Rows.transitDepartureRow.laidByTextAt .later Tryd.pinned [.data, .data] true :=
  OpenClaim.laidByTextAt_later rfl rfl tie2 noOwnUnsafe
theorem transitArrivalUpto_row_tie : Rows.transitArrivalUptoRow.laidByTextAt .later Tryd.pinned [.data] true :=
  OpenClaim.laidByTextAt_later rfl rfl tie noOwnUnsafe
theorem transitOneEndUpto_row_tie : Rows.transitOneEndUptoRow.laidByTextAt .later Tryd.pinned [.data] true :=
  OpenClaim.laidByTextAt_later rfl rfl tie noOwnUnsafe
theorem transitSealsUpto_row_tie : Rows.transitSealsUptoRow.laidByTextAt .later Tryd.pinned [.data] true :=
  OpenClaim.laidByTextAt_later rfl rfl tie noOwnUnsafe
theorem transitBeliefUpto_row_tie : Rows.transitBeliefUptoRow.laidByTextAt .later Tryd.pinned [.data] true :=
  OpenClaim.laidByTextAt_later rfl rfl tie noOwnUnsafe
theorem transitDepartureUpto_row_tie : Rows.transitDepartureUptoRow.laidByTextAt .later Tryd.pinned [.data, .data] true :=
  OpenClaim.laidByTextAt_later rfl rfl tie2 noOwnUnsafe
end Go.Proofs.YtbndoihcejieoaaDoor
