/-
  DERIVED. GIVEN WITH THE SEED: THE CARDS: each row of YtlmcejiebobfbaaDoorRows.lean that lists a variable, with what it lists TIED to the program's text (the seventh form; the later family's looks); each row that meets fmt, with fmt's text TOLD by the authors' own Lean function (tested against real Go, not proved from fmt's source: count such statements apart). THE CARD IS WHAT COUNTS. Prove the row's statement (the work); the ties are given (YtlmcejiebobfbaaDoorTie.lean); close each card by the builder's one call (the guide's Derived/Test/ToyasCard.lean, 'card_holds'). Laid BY PROGRAM, IN A SANDBOX (cutbox-door.mjs). By AI agents, Wed Nov 11 2026. No macro, syntax, notation, axiom, sorry.
-/
import Derived.Test.YtlmcejiebobfbaaDoorRows
import GoSem.ClaimSeven
namespace Go.Proofs.YtlmcejiebobfbaaDoor
namespace Rows

/-- THE TIED CARD OF 'customslaw04.CalendarDates'. -/
def calendarDatesCard : Claim7 := { stood := { row := calendarDatesRow, standIns := [], harness := (true, "2b9545e5c2714a46ccdf653b1d63659ffe6e3b42b2a7d04135cceda110d12ae1"), looks := false }, kinds := [], alts := [], laidByText := true, laidKinds := [.data], laidTests := true, laidLooks := .later }
def CalendarDatesCardSaid : Prop := Claim7.holds Tryd.pinned (.plain (OpenSpec.ofChange calendarDatesSpec)) calendarDatesCard

/-- THE TIED CARD OF 'customslaw04.CalendarNumbers'. -/
def calendarNumbersCard : Claim7 := { stood := { row := calendarNumbersRow, standIns := [], harness := (true, "2b9545e5c2714a46ccdf653b1d63659ffe6e3b42b2a7d04135cceda110d12ae1"), looks := false }, kinds := [], alts := [], laidByText := true, laidKinds := [.data], laidTests := true, laidLooks := .later }
def CalendarNumbersCardSaid : Prop := Claim7.holds Tryd.pinned (.plain (OpenSpec.ofChange calendarNumbersSpec)) calendarNumbersCard

/-- THE TIED CARD OF 'customslaw04.CalendarNext'. -/
def calendarNextCard : Claim7 := { stood := { row := calendarNextRow, standIns := [], harness := (true, "2b9545e5c2714a46ccdf653b1d63659ffe6e3b42b2a7d04135cceda110d12ae1"), looks := false }, kinds := [], alts := [], laidByText := true, laidKinds := [.data], laidTests := true, laidLooks := .later }
def CalendarNextCardSaid : Prop := Claim7.holds Tryd.pinned (.plain (OpenSpec.ofChange calendarNextSpec)) calendarNextCard

/-- THE TIED CARD OF 'customslaw04.CalendarMonths'. -/
def calendarMonthsCard : Claim7 := { stood := { row := calendarMonthsRow, standIns := [], harness := (true, "2b9545e5c2714a46ccdf653b1d63659ffe6e3b42b2a7d04135cceda110d12ae1"), looks := false }, kinds := [], alts := [], laidByText := true, laidKinds := [.data], laidTests := true, laidLooks := .later }
def CalendarMonthsCardSaid : Prop := Claim7.holds Tryd.pinned (.plain (OpenSpec.ofChange calendarMonthsSpec)) calendarMonthsCard

/-- THE TIED CARD OF 'customslaw04.CalendarMonthsMonotone'. -/
def calendarMonthsMonotoneCard : Claim7 := { stood := { row := calendarMonthsMonotoneRow, standIns := [], harness := (true, "2b9545e5c2714a46ccdf653b1d63659ffe6e3b42b2a7d04135cceda110d12ae1"), looks := false }, kinds := [], alts := [], laidByText := true, laidKinds := [.data], laidTests := true, laidLooks := .later }
def CalendarMonthsMonotoneCardSaid : Prop := Claim7.holds Tryd.pinned (.plain (OpenSpec.ofChange calendarMonthsMonotoneSpec)) calendarMonthsMonotoneCard

/-- THE TIED CARD OF 'customslaw04.CalendarDeadline'. -/
def calendarDeadlineCard : Claim7 := { stood := { row := calendarDeadlineRow, standIns := [], harness := (true, "2b9545e5c2714a46ccdf653b1d63659ffe6e3b42b2a7d04135cceda110d12ae1"), looks := false }, kinds := [], alts := [], laidByText := true, laidKinds := [.data], laidTests := true, laidLooks := .later }
def CalendarDeadlineCardSaid : Prop := Claim7.holds Tryd.pinned (.plain (OpenSpec.ofChange calendarDeadlineSpec)) calendarDeadlineCard

/-- THE TIED CARD OF 'customslaw04.CalendarWorkingSteps'. -/
def calendarWorkingStepsCard : Claim7 := { stood := { row := calendarWorkingStepsRow, standIns := [], harness := (true, "2b9545e5c2714a46ccdf653b1d63659ffe6e3b42b2a7d04135cceda110d12ae1"), looks := false }, kinds := [], alts := [], laidByText := true, laidKinds := [.data], laidTests := true, laidLooks := .later }
def CalendarWorkingStepsCardSaid : Prop := Claim7.holds Tryd.pinned (.plain (OpenSpec.ofChange calendarWorkingStepsSpec)) calendarWorkingStepsCard

/-- THE TIED CARD OF 'customslaw04.CalendarWorking'. -/
def calendarWorkingCard : Claim7 := { stood := { row := calendarWorkingRow, standIns := [], harness := (true, "2b9545e5c2714a46ccdf653b1d63659ffe6e3b42b2a7d04135cceda110d12ae1"), looks := false }, kinds := [], alts := [], laidByText := true, laidKinds := [.data], laidTests := true, laidLooks := .later }
def CalendarWorkingCardSaid : Prop := Claim7.holds Tryd.pinned (.plain (OpenSpec.ofChange calendarWorkingSpec)) calendarWorkingCard

/-- THE SECOND FORM's CARD OF 'customslaw04.CalendarDates'. -/
def calendarDatesUptoCard : Claim7 := { stood := { row := calendarDatesUptoRow, standIns := [], harness := (true, "2b9545e5c2714a46ccdf653b1d63659ffe6e3b42b2a7d04135cceda110d12ae1"), looks := false }, kinds := [], alts := [], laidByText := true, laidKinds := [.data], laidTests := true, laidLooks := .later }
def CalendarDatesUptoCardSaid : Prop := Claim7.holds Tryd.pinned (.plain (OpenSpec.upto calendarDatesSpec)) calendarDatesUptoCard

/-- THE SECOND FORM's CARD OF 'customslaw04.CalendarNumbers'. -/
def calendarNumbersUptoCard : Claim7 := { stood := { row := calendarNumbersUptoRow, standIns := [], harness := (true, "2b9545e5c2714a46ccdf653b1d63659ffe6e3b42b2a7d04135cceda110d12ae1"), looks := false }, kinds := [], alts := [], laidByText := true, laidKinds := [.data], laidTests := true, laidLooks := .later }
def CalendarNumbersUptoCardSaid : Prop := Claim7.holds Tryd.pinned (.plain (OpenSpec.upto calendarNumbersSpec)) calendarNumbersUptoCard

/-- THE SECOND FORM's CARD OF 'customslaw04.CalendarNext'. -/
def calendarNextUptoCard : Claim7 := { stood := { row := calendarNextUptoRow, standIns := [], harness := (true, "2b9545e5c2714a46ccdf653b1d63659ffe6e3b42b2a7d04135cceda110d12ae1"), looks := false }, kinds := [], alts := [], laidByText := true, laidKinds := [.data], laidTests := true, laidLooks := .later }
def CalendarNextUptoCardSaid : Prop := Claim7.holds Tryd.pinned (.plain (OpenSpec.upto calendarNextSpec)) calendarNextUptoCard

/-- THE SECOND FORM's CARD OF 'customslaw04.CalendarMonths'. -/
def calendarMonthsUptoCard : Claim7 := { stood := { row := calendarMonthsUptoRow, standIns := [], harness := (true, "2b9545e5c2714a46ccdf653b1d63659ffe6e3b42b2a7d04135cceda110d12ae1"), looks := false }, kinds := [], alts := [], laidByText := true, laidKinds := [.data], laidTests := true, laidLooks := .later }
def CalendarMonthsUptoCardSaid : Prop := Claim7.holds Tryd.pinned (.plain (OpenSpec.upto calendarMonthsSpec)) calendarMonthsUptoCard

/-- THE SECOND FORM's CARD OF 'customslaw04.CalendarMonthsMonotone'. -/
def calendarMonthsMonotoneUptoCard : Claim7 := { stood := { row := calendarMonthsMonotoneUptoRow, standIns := [], harness := (true, "2b9545e5c2714a46ccdf653b1d63659ffe6e3b42b2a7d04135cceda110d12ae1"), looks := false }, kinds := [], alts := [], laidByText := true, laidKinds := [.data], laidTests := true, laidLooks := .later }
def CalendarMonthsMonotoneUptoCardSaid : Prop := Claim7.holds Tryd.pinned (.plain (OpenSpec.upto calendarMonthsMonotoneSpec)) calendarMonthsMonotoneUptoCard

/-- THE SECOND FORM's CARD OF 'customslaw04.CalendarDeadline'. -/
def calendarDeadlineUptoCard : Claim7 := { stood := { row := calendarDeadlineUptoRow, standIns := [], harness := (true, "2b9545e5c2714a46ccdf653b1d63659ffe6e3b42b2a7d04135cceda110d12ae1"), looks := false }, kinds := [], alts := [], laidByText := true, laidKinds := [.data], laidTests := true, laidLooks := .later }
def CalendarDeadlineUptoCardSaid : Prop := Claim7.holds Tryd.pinned (.plain (OpenSpec.upto calendarDeadlineSpec)) calendarDeadlineUptoCard

/-- THE SECOND FORM's CARD OF 'customslaw04.CalendarWorkingSteps'. -/
def calendarWorkingStepsUptoCard : Claim7 := { stood := { row := calendarWorkingStepsUptoRow, standIns := [], harness := (true, "2b9545e5c2714a46ccdf653b1d63659ffe6e3b42b2a7d04135cceda110d12ae1"), looks := false }, kinds := [], alts := [], laidByText := true, laidKinds := [.data], laidTests := true, laidLooks := .later }
def CalendarWorkingStepsUptoCardSaid : Prop := Claim7.holds Tryd.pinned (.plain (OpenSpec.upto calendarWorkingStepsSpec)) calendarWorkingStepsUptoCard

/-- THE SECOND FORM's CARD OF 'customslaw04.CalendarWorking'. -/
def calendarWorkingUptoCard : Claim7 := { stood := { row := calendarWorkingUptoRow, standIns := [], harness := (true, "2b9545e5c2714a46ccdf653b1d63659ffe6e3b42b2a7d04135cceda110d12ae1"), looks := false }, kinds := [], alts := [], laidByText := true, laidKinds := [.data], laidTests := true, laidLooks := .later }
def CalendarWorkingUptoCardSaid : Prop := Claim7.holds Tryd.pinned (.plain (OpenSpec.upto calendarWorkingSpec)) calendarWorkingUptoCard
end Rows
end Go.Proofs.YtlmcejiebobfbaaDoor
