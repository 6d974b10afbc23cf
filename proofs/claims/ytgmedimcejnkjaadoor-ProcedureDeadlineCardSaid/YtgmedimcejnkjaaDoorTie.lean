/-
  DERIVED. GIVEN WITH THE SEED: THE PROGRAM's TIES (one call each: nine closed facts by the kernel) AND EACH ROW's TIE, after the 31st guide's Derived/Test/Toyas{Tie, Card}.lean. No idea stands in it: it is a product of the set-up. Laid BY PROGRAM, IN A SANDBOX (cutbox-door.mjs). By AI agents, Wed Nov 11 2026. No macro, syntax, notation, axiom, sorry.
-/
import Derived.Test.YtgmedimcejnkjaaDoorRows
import Derived.LaidByTextLater
import Derived.SevenTiedAt
import Derived.LaidSub
import Derived.LaidOnce
namespace Go.Proofs.YtgmedimcejnkjaaDoor
open Go
set_option maxRecDepth 100000
theorem seatTie1 : Tryd.prog.laidByTextLater [("customs/calendar.lengths", Rows.laid_customs_calendar_lengths), ("customs/procedure.transitions", Rows.laid_customs_procedure_transitions)] [.data, .data] true :=
  Program.laidByTextLater_by_one 55 8 109 (by kernel_rfl) (by kernel_rfl) (by kernel_rfl) (by kernel_rfl) (by kernel_rfl) (by kernel_rfl) (fun _ _ => by kernel_rfl)
theorem noOwnUnsafe : Tryd.pinned.checked.prog.headLifts.contains "ownunsafe" = false := by kernel_rfl
theorem tie : Tryd.prog.laidByTextLater [("customs/procedure.transitions", Rows.laid_customs_procedure_transitions)] [.data] true :=
  Program.laidByTextLater.sub seatTie1 ["customs/procedure.transitions"] (by kernel_rfl) (by kernel_rfl)
theorem procedureNext_row_tie : Rows.procedureNextRow.laidByTextAt .later Tryd.pinned [.data] true :=
  OpenClaim.laidByTextAt_later rfl rfl tie noOwnUnsafe
theorem procedurePath_row_tie : Rows.procedurePathRow.laidByTextAt .later Tryd.pinned [.data] true :=
  OpenClaim.laidByTextAt_later rfl rfl tie noOwnUnsafe
theorem procedureClasses_row_tie : Rows.procedureClassesRow.laidByTextAt .later Tryd.pinned [.data] true :=
  OpenClaim.laidByTextAt_later rfl rfl tie noOwnUnsafe
theorem procedureRun_row_tie : Rows.procedureRunRow.laidByTextAt .later Tryd.pinned [.data] true :=
  OpenClaim.laidByTextAt_later rfl rfl tie noOwnUnsafe
theorem procedureShort_row_tie : Rows.procedureShortRow.laidByTextAt .later Tryd.pinned [.data] true :=
  OpenClaim.laidByTextAt_later rfl rfl tie noOwnUnsafe
theorem tie2 : Tryd.prog.laidByTextLater [("customs/calendar.lengths", Rows.laid_customs_calendar_lengths), ("customs/procedure.transitions", Rows.laid_customs_procedure_transitions)] [.data, .data] true :=
  Program.laidByTextLater.sub seatTie1 ["customs/calendar.lengths", "customs/procedure.transitions"] (by kernel_rfl) (by kernel_rfl)
theorem procedureDeadline_row_tie : Rows.procedureDeadlineRow.laidByTextAt .later Tryd.pinned [.data, .data] true :=
  OpenClaim.laidByTextAt_later rfl rfl tie2 noOwnUnsafe
theorem procedureNextUpto_row_tie : Rows.procedureNextUptoRow.laidByTextAt .later Tryd.pinned [.data] true :=
  OpenClaim.laidByTextAt_later rfl rfl tie noOwnUnsafe
theorem procedurePathUpto_row_tie : Rows.procedurePathUptoRow.laidByTextAt .later Tryd.pinned [.data] true :=
  OpenClaim.laidByTextAt_later rfl rfl tie noOwnUnsafe
theorem procedureClassesUpto_row_tie : Rows.procedureClassesUptoRow.laidByTextAt .later Tryd.pinned [.data] true :=
  OpenClaim.laidByTextAt_later rfl rfl tie noOwnUnsafe
theorem procedureRunUpto_row_tie : Rows.procedureRunUptoRow.laidByTextAt .later Tryd.pinned [.data] true :=
  OpenClaim.laidByTextAt_later rfl rfl tie noOwnUnsafe
theorem procedureShortUpto_row_tie : Rows.procedureShortUptoRow.laidByTextAt .later Tryd.pinned [.data] true :=
  OpenClaim.laidByTextAt_later rfl rfl tie noOwnUnsafe
theorem procedureDeadlineUpto_row_tie : Rows.procedureDeadlineUptoRow.laidByTextAt .later Tryd.pinned [.data, .data] true :=
  OpenClaim.laidByTextAt_later rfl rfl tie2 noOwnUnsafe
end Go.Proofs.YtgmedimcejnkjaaDoor
