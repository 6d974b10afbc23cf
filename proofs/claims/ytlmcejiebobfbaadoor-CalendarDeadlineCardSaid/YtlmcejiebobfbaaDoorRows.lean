/-
  NARROWER THAN 'FOR EVERY INPUT', by the rows' own cells (each row's printed sentence says how): CalendarDates: laid · CalendarNumbers: laid · CalendarNext: laid · CalendarMonths: laid · CalendarMonthsMonotone: laid · CalendarDeadline: laid · CalendarWorkingSteps: laid · CalendarWorking: laid.
  DERIVED. THE GIVEN ROWS OF THIS SEAT. 8 by the template 'for every input the law returns true; each argument reads behind the call as it read before'; 0 by the template 'total and deterministic' (their statements: YtlmcejiebobfbaaDoorTotals.lean).
  GIVEN WITH THE SEED: the statements are not yours to turn. If you find one false, say at which input.
  Laid BY PROGRAM, IN A SANDBOX (cutbox-rows.mjs): the forced cells as the released guide's own fill.sh prints them over the translation acfce63f5abcbcfc… (all of the seat's roots in one cut). By AI agents, Wed Nov 11 2026. No macro, syntax, notation, axiom, sorry.
-/
import Derived.Test.YtlmcejiebobfbaaDoorChecked
import GoSem.Claim
import GoSem.ClaimJoined
import GoSem.ClaimMapViews
import Derived.JoinedTies
import Derived.KernelRfl
namespace Go.Proofs.YtlmcejiebobfbaaDoor
/- THE CELL 'sum', in the pinned program and in every row, IS THE sha256 OF THE DUMP (.gsa) THAT YtlmcejiebobfbaaDoorProg.lean LOADS. Nothing in Lean hashes anything: it is a label: what it is worth is what the hold of that sum in a sandbox is worth. -/
noncomputable def Tryd.pinned : Pinned := { name := "ytlmcejiebobfbaadoor", sum := "acfce63f5abcbcfcfc83bcdc7784a182c309260108e1ec40d17a02e63798abc9", checked := Tryd.checked }
namespace Rows
def none {H : Type} : Left H := { results := [], args := [] }

/- WHAT THE LISTED PACKAGE-LEVEL VARIABLES READ AS WHEN THE CALL BEGINS. Each datum BY PROGRAM (the guide's laid-datum.mjs) off the statement by which the dump's own 'gosem.cut.vars' lays the variable. In a bare row this is a premise. The card (YtlmcejiebobfbaaDoorCards.lean) ties it to the program's text. -/
def laid_customs_calendar_lengths {H : Type} : DataW H := .agg [.lit (.int .i64 31), .lit (.int .i64 28), .lit (.int .i64 31), .lit (.int .i64 30), .lit (.int .i64 31), .lit (.int .i64 30), .lit (.int .i64 31), .lit (.int .i64 31), .lit (.int .i64 30), .lit (.int .i64 31), .lit (.int .i64 30), .lit (.int .i64 31)]

/-- 'customslaw04.CalendarDates': WHATEVER THE INPUT: true; the input reads as it did. -/
def calendarDatesSpec : ChangeSpec := { name := "calendarDates", fn := fun _ => fun
  | [d1, d2] => { results := [.lit (.bool true)], args := [d1, d2] }
  | _ => none }
def calendarDatesRow : OpenClaim := { program := "ytlmcejiebobfbaadoor", sum := "acfce63f5abcbcfcfc83bcdc7784a182c309260108e1ec40d17a02e63798abc9", func := "customs/customslaw04.CalendarDates", spec := "calendarDates", named := ["customs/calendar.lengths"], apart := false, laid := [("customs/calendar.lengths", laid_customs_calendar_lengths)] }
def CalendarDatesSaid : Prop := calendarDatesRow.holds Tryd.pinned (OpenSpec.ofChange calendarDatesSpec)

/-- ITS FALSE NEIGHBOUR: 'it returns false'. Refute it at one input. -/
def calendarDatesWrong : ChangeSpec := { name := "calendarDates", fn := fun _ => fun
  | [d1, d2] => { results := [.lit (.bool false)], args := [d1, d2] }
  | _ => none }
def CalendarDatesWrongFalsely : Prop := calendarDatesRow.holds Tryd.pinned (OpenSpec.ofChange calendarDatesWrong)

/-- 'customslaw04.CalendarNumbers': WHATEVER THE INPUT: true; the input reads as it did. -/
def calendarNumbersSpec : ChangeSpec := { name := "calendarNumbers", fn := fun _ => fun
  | [d1, d2, d3, d4] => { results := [.lit (.bool true)], args := [d1, d2, d3, d4] }
  | _ => none }
def calendarNumbersRow : OpenClaim := { program := "ytlmcejiebobfbaadoor", sum := "acfce63f5abcbcfcfc83bcdc7784a182c309260108e1ec40d17a02e63798abc9", func := "customs/customslaw04.CalendarNumbers", spec := "calendarNumbers", named := ["customs/calendar.lengths"], apart := false, laid := [("customs/calendar.lengths", laid_customs_calendar_lengths)] }
def CalendarNumbersSaid : Prop := calendarNumbersRow.holds Tryd.pinned (OpenSpec.ofChange calendarNumbersSpec)

/-- ITS FALSE NEIGHBOUR: 'it returns false'. Refute it at one input. -/
def calendarNumbersWrong : ChangeSpec := { name := "calendarNumbers", fn := fun _ => fun
  | [d1, d2, d3, d4] => { results := [.lit (.bool false)], args := [d1, d2, d3, d4] }
  | _ => none }
def CalendarNumbersWrongFalsely : Prop := calendarNumbersRow.holds Tryd.pinned (OpenSpec.ofChange calendarNumbersWrong)

/-- 'customslaw04.CalendarNext': WHATEVER THE INPUT: true; the input reads as it did. -/
def calendarNextSpec : ChangeSpec := { name := "calendarNext", fn := fun _ => fun
  | [d] => { results := [.lit (.bool true)], args := [d] }
  | _ => none }
def calendarNextRow : OpenClaim := { program := "ytlmcejiebobfbaadoor", sum := "acfce63f5abcbcfcfc83bcdc7784a182c309260108e1ec40d17a02e63798abc9", func := "customs/customslaw04.CalendarNext", spec := "calendarNext", named := ["customs/calendar.lengths"], apart := false, laid := [("customs/calendar.lengths", laid_customs_calendar_lengths)] }
def CalendarNextSaid : Prop := calendarNextRow.holds Tryd.pinned (OpenSpec.ofChange calendarNextSpec)

/-- ITS FALSE NEIGHBOUR: 'it returns false'. Refute it at one input. -/
def calendarNextWrong : ChangeSpec := { name := "calendarNext", fn := fun _ => fun
  | [d] => { results := [.lit (.bool false)], args := [d] }
  | _ => none }
def CalendarNextWrongFalsely : Prop := calendarNextRow.holds Tryd.pinned (OpenSpec.ofChange calendarNextWrong)

/-- 'customslaw04.CalendarMonths': WHATEVER THE INPUT: true; the input reads as it did. -/
def calendarMonthsSpec : ChangeSpec := { name := "calendarMonths", fn := fun _ => fun
  | [d1, d2, d3] => { results := [.lit (.bool true)], args := [d1, d2, d3] }
  | _ => none }
def calendarMonthsRow : OpenClaim := { program := "ytlmcejiebobfbaadoor", sum := "acfce63f5abcbcfcfc83bcdc7784a182c309260108e1ec40d17a02e63798abc9", func := "customs/customslaw04.CalendarMonths", spec := "calendarMonths", named := ["customs/calendar.lengths"], apart := false, laid := [("customs/calendar.lengths", laid_customs_calendar_lengths)] }
def CalendarMonthsSaid : Prop := calendarMonthsRow.holds Tryd.pinned (OpenSpec.ofChange calendarMonthsSpec)

/-- ITS FALSE NEIGHBOUR: 'it returns false'. Refute it at one input. -/
def calendarMonthsWrong : ChangeSpec := { name := "calendarMonths", fn := fun _ => fun
  | [d1, d2, d3] => { results := [.lit (.bool false)], args := [d1, d2, d3] }
  | _ => none }
def CalendarMonthsWrongFalsely : Prop := calendarMonthsRow.holds Tryd.pinned (OpenSpec.ofChange calendarMonthsWrong)

/-- 'customslaw04.CalendarMonthsMonotone': WHATEVER THE INPUT: true; the input reads as it did. -/
def calendarMonthsMonotoneSpec : ChangeSpec := { name := "calendarMonthsMonotone", fn := fun _ => fun
  | [d1, d2, d3, d4] => { results := [.lit (.bool true)], args := [d1, d2, d3, d4] }
  | _ => none }
def calendarMonthsMonotoneRow : OpenClaim := { program := "ytlmcejiebobfbaadoor", sum := "acfce63f5abcbcfcfc83bcdc7784a182c309260108e1ec40d17a02e63798abc9", func := "customs/customslaw04.CalendarMonthsMonotone", spec := "calendarMonthsMonotone", named := ["customs/calendar.lengths"], apart := false, laid := [("customs/calendar.lengths", laid_customs_calendar_lengths)] }
def CalendarMonthsMonotoneSaid : Prop := calendarMonthsMonotoneRow.holds Tryd.pinned (OpenSpec.ofChange calendarMonthsMonotoneSpec)

/-- ITS FALSE NEIGHBOUR: 'it returns false'. Refute it at one input. -/
def calendarMonthsMonotoneWrong : ChangeSpec := { name := "calendarMonthsMonotone", fn := fun _ => fun
  | [d1, d2, d3, d4] => { results := [.lit (.bool false)], args := [d1, d2, d3, d4] }
  | _ => none }
def CalendarMonthsMonotoneWrongFalsely : Prop := calendarMonthsMonotoneRow.holds Tryd.pinned (OpenSpec.ofChange calendarMonthsMonotoneWrong)

/-- 'customslaw04.CalendarDeadline': WHATEVER THE INPUT: true; the input reads as it did. -/
def calendarDeadlineSpec : ChangeSpec := { name := "calendarDeadline", fn := fun _ => fun
  | [d1, d2, d3, d4, d5, d6] => { results := [.lit (.bool true)], args := [d1, d2, d3, d4, d5, d6] }
  | _ => none }
def calendarDeadlineRow : OpenClaim := { program := "ytlmcejiebobfbaadoor", sum := "acfce63f5abcbcfcfc83bcdc7784a182c309260108e1ec40d17a02e63798abc9", func := "customs/customslaw04.CalendarDeadline", spec := "calendarDeadline", named := ["customs/calendar.lengths"], apart := false, laid := [("customs/calendar.lengths", laid_customs_calendar_lengths)] }
def CalendarDeadlineSaid : Prop := calendarDeadlineRow.holds Tryd.pinned (OpenSpec.ofChange calendarDeadlineSpec)

/-- ITS FALSE NEIGHBOUR: 'it returns false'. Refute it at one input. -/
def calendarDeadlineWrong : ChangeSpec := { name := "calendarDeadline", fn := fun _ => fun
  | [d1, d2, d3, d4, d5, d6] => { results := [.lit (.bool false)], args := [d1, d2, d3, d4, d5, d6] }
  | _ => none }
def CalendarDeadlineWrongFalsely : Prop := calendarDeadlineRow.holds Tryd.pinned (OpenSpec.ofChange calendarDeadlineWrong)

/-- 'customslaw04.CalendarWorkingSteps': WHATEVER THE INPUT: true; the input reads as it did. -/
def calendarWorkingStepsSpec : ChangeSpec := { name := "calendarWorkingSteps", fn := fun _ => fun
  | [d1, d2, d3, d4] => { results := [.lit (.bool true)], args := [d1, d2, d3, d4] }
  | _ => none }
def calendarWorkingStepsRow : OpenClaim := { program := "ytlmcejiebobfbaadoor", sum := "acfce63f5abcbcfcfc83bcdc7784a182c309260108e1ec40d17a02e63798abc9", func := "customs/customslaw04.CalendarWorkingSteps", spec := "calendarWorkingSteps", named := ["customs/calendar.lengths"], apart := false, laid := [("customs/calendar.lengths", laid_customs_calendar_lengths)] }
def CalendarWorkingStepsSaid : Prop := calendarWorkingStepsRow.holds Tryd.pinned (OpenSpec.ofChange calendarWorkingStepsSpec)

/-- ITS FALSE NEIGHBOUR: 'it returns false'. Refute it at one input. -/
def calendarWorkingStepsWrong : ChangeSpec := { name := "calendarWorkingSteps", fn := fun _ => fun
  | [d1, d2, d3, d4] => { results := [.lit (.bool false)], args := [d1, d2, d3, d4] }
  | _ => none }
def CalendarWorkingStepsWrongFalsely : Prop := calendarWorkingStepsRow.holds Tryd.pinned (OpenSpec.ofChange calendarWorkingStepsWrong)

/-- 'customslaw04.CalendarWorking': WHATEVER THE INPUT: true; the input reads as it did. -/
def calendarWorkingSpec : ChangeSpec := { name := "calendarWorking", fn := fun _ => fun
  | [d1, d2, d3, d4] => { results := [.lit (.bool true)], args := [d1, d2, d3, d4] }
  | _ => none }
def calendarWorkingRow : OpenClaim := { program := "ytlmcejiebobfbaadoor", sum := "acfce63f5abcbcfcfc83bcdc7784a182c309260108e1ec40d17a02e63798abc9", func := "customs/customslaw04.CalendarWorking", spec := "calendarWorking", named := ["customs/calendar.lengths"], apart := false, laid := [("customs/calendar.lengths", laid_customs_calendar_lengths)] }
def CalendarWorkingSaid : Prop := calendarWorkingRow.holds Tryd.pinned (OpenSpec.ofChange calendarWorkingSpec)

/-- ITS FALSE NEIGHBOUR: 'it returns false'. Refute it at one input. -/
def calendarWorkingWrong : ChangeSpec := { name := "calendarWorking", fn := fun _ => fun
  | [d1, d2, d3, d4] => { results := [.lit (.bool false)], args := [d1, d2, d3, d4] }
  | _ => none }
def CalendarWorkingWrongFalsely : Prop := calendarWorkingRow.holds Tryd.pinned (OpenSpec.ofChange calendarWorkingWrong)

/- THE SECOND FORM. 'bulk': how many values and letters a reading holds, each counted each time it is reached (what is shared counts as often as it is met; a slice's spare places count too). A statement '..UptoSaid' is the law's where the arguments, and the package variables that the reading takes, are together of bulk at most 1048576: NARROWER than '..Said'. Prove '..Said' where nothing that the law and all that it calls make is longer than what came in: it says more and counts as full. Else prove '..UptoSaid'. A law counts once. -/
mutual
def uptoBulk {H : Type} : DataW H → Nat
  | .lit (.string bytes) => bytes.length + 1
  | .lit _ => 1
  | .nil => 1
  | .ptr d => uptoBulk d + 1
  | .slice elems spare => uptoBulkAll elems + uptoBulkAll spare + 1
  | .agg parts => uptoBulkAll parts + 1
  | .iface _ d => uptoBulk d + 1
  | .map entries => uptoBulkEntries entries + 1
  | .held _ => 1
def uptoBulkAll {H : Type} : List (DataW H) → Nat
  | [] => 0
  | d :: r => uptoBulk d + uptoBulkAll r
def uptoBulkEntries {H : Type} : List (Lit × DataW H) → Nat
  | [] => 0
  | x :: r => uptoBulkEntry x + uptoBulkEntries r
def uptoBulkEntry {H : Type} : Lit × DataW H → Nat
  | (.string bytes, d) => bytes.length + uptoBulk d + 1
  | (_, d) => uptoBulk d + 1
 end
def uptoSmall : (H : Type) → List (DataW H) → Bool := fun _ ds => decide (uptoBulkAll ds ≤ 1048576)
def OpenSpec.upto (s : _root_.Go.ChangeSpec) : _root_.Go.OpenSpec := { _root_.Go.OpenSpec.ofChange s with cond := some uptoSmall }

/-- 'customslaw04.CalendarDates', WHERE WHAT IT READS IS OF BULK AT MOST 1048576: true; the input reads as it did. -/
def calendarDatesUptoRow : OpenClaim := { program := "ytlmcejiebobfbaadoor", sum := "acfce63f5abcbcfcfc83bcdc7784a182c309260108e1ec40d17a02e63798abc9", func := "customs/customslaw04.CalendarDates", spec := "calendarDates", named := ["customs/calendar.lengths"], apart := false, laid := [("customs/calendar.lengths", laid_customs_calendar_lengths)], narrowed := true }
def CalendarDatesUptoSaid : Prop := calendarDatesUptoRow.holds Tryd.pinned (OpenSpec.upto calendarDatesSpec)

/-- 'customslaw04.CalendarNumbers', WHERE WHAT IT READS IS OF BULK AT MOST 1048576: true; the input reads as it did. -/
def calendarNumbersUptoRow : OpenClaim := { program := "ytlmcejiebobfbaadoor", sum := "acfce63f5abcbcfcfc83bcdc7784a182c309260108e1ec40d17a02e63798abc9", func := "customs/customslaw04.CalendarNumbers", spec := "calendarNumbers", named := ["customs/calendar.lengths"], apart := false, laid := [("customs/calendar.lengths", laid_customs_calendar_lengths)], narrowed := true }
def CalendarNumbersUptoSaid : Prop := calendarNumbersUptoRow.holds Tryd.pinned (OpenSpec.upto calendarNumbersSpec)

/-- 'customslaw04.CalendarNext', WHERE WHAT IT READS IS OF BULK AT MOST 1048576: true; the input reads as it did. -/
def calendarNextUptoRow : OpenClaim := { program := "ytlmcejiebobfbaadoor", sum := "acfce63f5abcbcfcfc83bcdc7784a182c309260108e1ec40d17a02e63798abc9", func := "customs/customslaw04.CalendarNext", spec := "calendarNext", named := ["customs/calendar.lengths"], apart := false, laid := [("customs/calendar.lengths", laid_customs_calendar_lengths)], narrowed := true }
def CalendarNextUptoSaid : Prop := calendarNextUptoRow.holds Tryd.pinned (OpenSpec.upto calendarNextSpec)

/-- 'customslaw04.CalendarMonths', WHERE WHAT IT READS IS OF BULK AT MOST 1048576: true; the input reads as it did. -/
def calendarMonthsUptoRow : OpenClaim := { program := "ytlmcejiebobfbaadoor", sum := "acfce63f5abcbcfcfc83bcdc7784a182c309260108e1ec40d17a02e63798abc9", func := "customs/customslaw04.CalendarMonths", spec := "calendarMonths", named := ["customs/calendar.lengths"], apart := false, laid := [("customs/calendar.lengths", laid_customs_calendar_lengths)], narrowed := true }
def CalendarMonthsUptoSaid : Prop := calendarMonthsUptoRow.holds Tryd.pinned (OpenSpec.upto calendarMonthsSpec)

/-- 'customslaw04.CalendarMonthsMonotone', WHERE WHAT IT READS IS OF BULK AT MOST 1048576: true; the input reads as it did. -/
def calendarMonthsMonotoneUptoRow : OpenClaim := { program := "ytlmcejiebobfbaadoor", sum := "acfce63f5abcbcfcfc83bcdc7784a182c309260108e1ec40d17a02e63798abc9", func := "customs/customslaw04.CalendarMonthsMonotone", spec := "calendarMonthsMonotone", named := ["customs/calendar.lengths"], apart := false, laid := [("customs/calendar.lengths", laid_customs_calendar_lengths)], narrowed := true }
def CalendarMonthsMonotoneUptoSaid : Prop := calendarMonthsMonotoneUptoRow.holds Tryd.pinned (OpenSpec.upto calendarMonthsMonotoneSpec)

/-- 'customslaw04.CalendarDeadline', WHERE WHAT IT READS IS OF BULK AT MOST 1048576: true; the input reads as it did. -/
def calendarDeadlineUptoRow : OpenClaim := { program := "ytlmcejiebobfbaadoor", sum := "acfce63f5abcbcfcfc83bcdc7784a182c309260108e1ec40d17a02e63798abc9", func := "customs/customslaw04.CalendarDeadline", spec := "calendarDeadline", named := ["customs/calendar.lengths"], apart := false, laid := [("customs/calendar.lengths", laid_customs_calendar_lengths)], narrowed := true }
def CalendarDeadlineUptoSaid : Prop := calendarDeadlineUptoRow.holds Tryd.pinned (OpenSpec.upto calendarDeadlineSpec)

/-- 'customslaw04.CalendarWorkingSteps', WHERE WHAT IT READS IS OF BULK AT MOST 1048576: true; the input reads as it did. -/
def calendarWorkingStepsUptoRow : OpenClaim := { program := "ytlmcejiebobfbaadoor", sum := "acfce63f5abcbcfcfc83bcdc7784a182c309260108e1ec40d17a02e63798abc9", func := "customs/customslaw04.CalendarWorkingSteps", spec := "calendarWorkingSteps", named := ["customs/calendar.lengths"], apart := false, laid := [("customs/calendar.lengths", laid_customs_calendar_lengths)], narrowed := true }
def CalendarWorkingStepsUptoSaid : Prop := calendarWorkingStepsUptoRow.holds Tryd.pinned (OpenSpec.upto calendarWorkingStepsSpec)

/-- 'customslaw04.CalendarWorking', WHERE WHAT IT READS IS OF BULK AT MOST 1048576: true; the input reads as it did. -/
def calendarWorkingUptoRow : OpenClaim := { program := "ytlmcejiebobfbaadoor", sum := "acfce63f5abcbcfcfc83bcdc7784a182c309260108e1ec40d17a02e63798abc9", func := "customs/customslaw04.CalendarWorking", spec := "calendarWorking", named := ["customs/calendar.lengths"], apart := false, laid := [("customs/calendar.lengths", laid_customs_calendar_lengths)], narrowed := true }
def CalendarWorkingUptoSaid : Prop := calendarWorkingUptoRow.holds Tryd.pinned (OpenSpec.upto calendarWorkingSpec)

end Rows
end Go.Proofs.YtlmcejiebobfbaaDoor
