/-
  NARROWER THAN 'FOR EVERY INPUT', by the rows' own cells (each row's printed sentence says how): TransitArrival: laid · TransitOneEnd: laid · TransitSeals: laid · TransitBelief: laid · TransitDeparture: laid.
  DERIVED. THE GIVEN ROWS OF THIS SEAT. 5 by the template 'for every input the law returns true; each argument reads behind the call as it read before'; 0 by the template 'total and deterministic' (their statements: YtbndoihcejieoaaDoorTotals.lean).
  GIVEN WITH THE SEED: the statements are not yours to turn. If you find one false, say at which input.
  Laid BY PROGRAM, IN A SANDBOX (cutbox-rows.mjs): the forced cells as the released guide's own fill.sh prints them over the translation e334f1d129de8397… (all of the seat's roots in one cut). By AI agents, Wed Nov 11 2026. No macro, syntax, notation, axiom, sorry.
-/
import Derived.Test.YtbndoihcejieoaaDoorChecked
import GoSem.Claim
import GoSem.ClaimJoined
import GoSem.ClaimMapViews
import Derived.JoinedTies
import Derived.KernelRfl
namespace Go.Proofs.YtbndoihcejieoaaDoor
/- THE CELL 'sum', in the pinned program and in every row, IS THE sha256 OF THE DUMP (.gsa) THAT YtbndoihcejieoaaDoorProg.lean LOADS. Nothing in Lean hashes anything: it is a label: what it is worth is what the hold of that sum in a sandbox is worth. -/
noncomputable def Tryd.pinned : Pinned := { name := "ytbndoihcejieoaadoor", sum := "e334f1d129de8397177f63a4e627048e57cd59874add21dd591097a1b3d418a1", checked := Tryd.checked }
namespace Rows
def none {H : Type} : Left H := { results := [], args := [] }

/- WHAT THE LISTED PACKAGE-LEVEL VARIABLES READ AS WHEN THE CALL BEGINS. Each datum BY PROGRAM (the guide's laid-datum.mjs) off the statement by which the dump's own 'gosem.cut.vars' lays the variable. In a bare row this is a premise. The card (YtbndoihcejieoaaDoorCards.lean) ties it to the program's text. -/
def laid_customs_transit_changes {H : Type} : DataW H := .agg [.agg [.agg [.lit (.int .i64 0), .lit (.int .i64 1)], .lit (.int .i64 2)], .agg [.agg [.lit (.int .i64 1), .lit (.int .i64 1)], .lit (.int .i64 3)], .agg [.agg [.lit (.int .i64 0), .lit (.int .i64 2)], .lit (.int .i64 1)], .agg [.agg [.lit (.int .i64 2), .lit (.int .i64 2)], .lit (.int .i64 3)], .agg [.agg [.lit (.int .i64 2), .lit (.int .i64 3)], .lit (.int .i64 4)]]
def laid_customs_calendar_lengths {H : Type} : DataW H := .agg [.lit (.int .i64 31), .lit (.int .i64 28), .lit (.int .i64 31), .lit (.int .i64 30), .lit (.int .i64 31), .lit (.int .i64 30), .lit (.int .i64 31), .lit (.int .i64 31), .lit (.int .i64 30), .lit (.int .i64 31), .lit (.int .i64 30), .lit (.int .i64 31)]

/-- 'customslaw35.TransitArrival': WHATEVER THE INPUT: true; the input reads as it did. -/
def transitArrivalSpec : ChangeSpec := { name := "transitArrival", fn := fun _ => fun
  | [d1, d2, d3, d4, d5, d6, d7] => { results := [.lit (.bool true)], args := [d1, d2, d3, d4, d5, d6, d7] }
  | _ => none }
def transitArrivalRow : OpenClaim := { program := "ytbndoihcejieoaadoor", sum := "e334f1d129de8397177f63a4e627048e57cd59874add21dd591097a1b3d418a1", func := "customs/customslaw35.TransitArrival", spec := "transitArrival", unfollowed := true, recurses := true, named := ["customs/transit.changes"], apart := false, laid := [("customs/transit.changes", laid_customs_transit_changes)] }
def TransitArrivalSaid : Prop := transitArrivalRow.holds Tryd.pinned (OpenSpec.ofChange transitArrivalSpec)

/-- ITS FALSE NEIGHBOUR: 'it returns false'. Refute it at one input. -/
def transitArrivalWrong : ChangeSpec := { name := "transitArrival", fn := fun _ => fun
  | [d1, d2, d3, d4, d5, d6, d7] => { results := [.lit (.bool false)], args := [d1, d2, d3, d4, d5, d6, d7] }
  | _ => none }
def TransitArrivalWrongFalsely : Prop := transitArrivalRow.holds Tryd.pinned (OpenSpec.ofChange transitArrivalWrong)

/-- 'customslaw35.TransitOneEnd': WHATEVER THE INPUT: true; the input reads as it did. -/
def transitOneEndSpec : ChangeSpec := { name := "transitOneEnd", fn := fun _ => fun
  | [d1, d2, d3] => { results := [.lit (.bool true)], args := [d1, d2, d3] }
  | _ => none }
def transitOneEndRow : OpenClaim := { program := "ytbndoihcejieoaadoor", sum := "e334f1d129de8397177f63a4e627048e57cd59874add21dd591097a1b3d418a1", func := "customs/customslaw35.TransitOneEnd", spec := "transitOneEnd", unfollowed := true, recurses := true, named := ["customs/transit.changes"], apart := false, laid := [("customs/transit.changes", laid_customs_transit_changes)] }
def TransitOneEndSaid : Prop := transitOneEndRow.holds Tryd.pinned (OpenSpec.ofChange transitOneEndSpec)

/-- ITS FALSE NEIGHBOUR: 'it returns false'. Refute it at one input. -/
def transitOneEndWrong : ChangeSpec := { name := "transitOneEnd", fn := fun _ => fun
  | [d1, d2, d3] => { results := [.lit (.bool false)], args := [d1, d2, d3] }
  | _ => none }
def TransitOneEndWrongFalsely : Prop := transitOneEndRow.holds Tryd.pinned (OpenSpec.ofChange transitOneEndWrong)

/-- 'customslaw35.TransitSeals': WHATEVER THE INPUT: true; the input reads as it did. -/
def transitSealsSpec : ChangeSpec := { name := "transitSeals", fn := fun _ => fun
  | [d1, d2, d3, d4, d5, d6] => { results := [.lit (.bool true)], args := [d1, d2, d3, d4, d5, d6] }
  | _ => none }
def transitSealsRow : OpenClaim := { program := "ytbndoihcejieoaadoor", sum := "e334f1d129de8397177f63a4e627048e57cd59874add21dd591097a1b3d418a1", func := "customs/customslaw35.TransitSeals", spec := "transitSeals", unfollowed := true, recurses := true, named := ["customs/transit.changes"], apart := false, laid := [("customs/transit.changes", laid_customs_transit_changes)] }
def TransitSealsSaid : Prop := transitSealsRow.holds Tryd.pinned (OpenSpec.ofChange transitSealsSpec)

/-- ITS FALSE NEIGHBOUR: 'it returns false'. Refute it at one input. -/
def transitSealsWrong : ChangeSpec := { name := "transitSeals", fn := fun _ => fun
  | [d1, d2, d3, d4, d5, d6] => { results := [.lit (.bool false)], args := [d1, d2, d3, d4, d5, d6] }
  | _ => none }
def TransitSealsWrongFalsely : Prop := transitSealsRow.holds Tryd.pinned (OpenSpec.ofChange transitSealsWrong)

/-- 'customslaw35.TransitBelief': WHATEVER THE INPUT: true; the input reads as it did. -/
def transitBeliefSpec : ChangeSpec := { name := "transitBelief", fn := fun _ => fun
  | [d1, d2, d3] => { results := [.lit (.bool true)], args := [d1, d2, d3] }
  | _ => none }
def transitBeliefRow : OpenClaim := { program := "ytbndoihcejieoaadoor", sum := "e334f1d129de8397177f63a4e627048e57cd59874add21dd591097a1b3d418a1", func := "customs/customslaw35.TransitBelief", spec := "transitBelief", unfollowed := true, recurses := true, named := ["customs/transit.changes"], apart := false, laid := [("customs/transit.changes", laid_customs_transit_changes)] }
def TransitBeliefSaid : Prop := transitBeliefRow.holds Tryd.pinned (OpenSpec.ofChange transitBeliefSpec)

/-- ITS FALSE NEIGHBOUR: 'it returns false'. Refute it at one input. -/
def transitBeliefWrong : ChangeSpec := { name := "transitBelief", fn := fun _ => fun
  | [d1, d2, d3] => { results := [.lit (.bool false)], args := [d1, d2, d3] }
  | _ => none }
def TransitBeliefWrongFalsely : Prop := transitBeliefRow.holds Tryd.pinned (OpenSpec.ofChange transitBeliefWrong)

/-- 'customslaw35.TransitDeparture': WHATEVER THE INPUT: true; the input reads as it did. -/
def transitDepartureSpec : ChangeSpec := { name := "transitDeparture", fn := fun _ => fun
  | [d1, d2, d3, d4, d5, d6] => { results := [.lit (.bool true)], args := [d1, d2, d3, d4, d5, d6] }
  | _ => none }
def transitDepartureRow : OpenClaim := { program := "ytbndoihcejieoaadoor", sum := "e334f1d129de8397177f63a4e627048e57cd59874add21dd591097a1b3d418a1", func := "customs/customslaw35.TransitDeparture", spec := "transitDeparture", unfollowed := true, recurses := true, named := ["customs/calendar.lengths", "customs/transit.changes"], apart := false, laid := [("customs/calendar.lengths", laid_customs_calendar_lengths), ("customs/transit.changes", laid_customs_transit_changes)] }
def TransitDepartureSaid : Prop := transitDepartureRow.holds Tryd.pinned (OpenSpec.ofChange transitDepartureSpec)

/-- ITS FALSE NEIGHBOUR: 'it returns false'. Refute it at one input. -/
def transitDepartureWrong : ChangeSpec := { name := "transitDeparture", fn := fun _ => fun
  | [d1, d2, d3, d4, d5, d6] => { results := [.lit (.bool false)], args := [d1, d2, d3, d4, d5, d6] }
  | _ => none }
def TransitDepartureWrongFalsely : Prop := transitDepartureRow.holds Tryd.pinned (OpenSpec.ofChange transitDepartureWrong)

/- THE SECOND FORM. 'bulk': how many values and letters a reading holds, each counted each time it is reached (what is shared counts as often as it is met; a slice's spare places count too). A statement '..UptoSaid' is the law's where the arguments, and the package variables that the reading takes, are together of bulk at most 1048576: NARROWER than '..Said'. Prove '..Said' where nothing that the law and all that it calls make is longer than what came in: it says more and counts as full. Else prove '..UptoSaid'. A law counts once. -/
mutual
def uptoBulk {H : Type} : DataW H → Nat
  | .lit (.string bytes) => bytes.length + 1
  | .lit _ => 1
  | .nil => 1
  | .ptr d => uptoBulk d + 1
  | .slice elems spare => uptoBulkAll elems + uptoBulkAll spare + 1
  | .agg parts => uptoBulkAll parts + 1
  | .iface _ d => uptoBulk d + 1
  | .map entries => uptoBulkEntries entries + 1
  | .held _ => 1
def uptoBulkAll {H : Type} : List (DataW H) → Nat
  | [] => 0
  | d :: r => uptoBulk d + uptoBulkAll r
def uptoBulkEntries {H : Type} : List (Lit × DataW H) → Nat
  | [] => 0
  | x :: r => uptoBulkEntry x + uptoBulkEntries r
def uptoBulkEntry {H : Type} : Lit × DataW H → Nat
  | (.string bytes, d) => bytes.length + uptoBulk d + 1
  | (_, d) => uptoBulk d + 1
 end
def uptoSmall : (H : Type) → List (DataW H) → Bool := fun _ ds => decide (uptoBulkAll ds ≤ 1048576)
def OpenSpec.upto (s : _root_.Go.ChangeSpec) : _root_.Go.OpenSpec := { _root_.Go.OpenSpec.ofChange s with cond := some uptoSmall }

/-- 'customslaw35.TransitArrival', WHERE WHAT IT READS IS OF BULK AT MOST 1048576: true; the input reads as it did. -/
def transitArrivalUptoRow : OpenClaim := { program := "ytbndoihcejieoaadoor", sum := "e334f1d129de8397177f63a4e627048e57cd59874add21dd591097a1b3d418a1", func := "customs/customslaw35.TransitArrival", spec := "transitArrival", unfollowed := true, recurses := true, named := ["customs/transit.changes"], apart := false, laid := [("customs/transit.changes", laid_customs_transit_changes)], narrowed := true }
def TransitArrivalUptoSaid : Prop := transitArrivalUptoRow.holds Tryd.pinned (OpenSpec.upto transitArrivalSpec)

/-- 'customslaw35.TransitOneEnd', WHERE WHAT IT READS IS OF BULK AT MOST 1048576: true; the input reads as it did. -/
def transitOneEndUptoRow : OpenClaim := { program := "ytbndoihcejieoaadoor", sum := "e334f1d129de8397177f63a4e627048e57cd59874add21dd591097a1b3d418a1", func := "customs/customslaw35.TransitOneEnd", spec := "transitOneEnd", unfollowed := true, recurses := true, named := ["customs/transit.changes"], apart := false, laid := [("customs/transit.changes", laid_customs_transit_changes)], narrowed := true }
def TransitOneEndUptoSaid : Prop := transitOneEndUptoRow.holds Tryd.pinned (OpenSpec.upto transitOneEndSpec)

/-- 'customslaw35.TransitSeals', WHERE WHAT IT READS IS OF BULK AT MOST 1048576: true; the input reads as it did. -/
def transitSealsUptoRow : OpenClaim := { program := "ytbndoihcejieoaadoor", sum := "e334f1d129de8397177f63a4e627048e57cd59874add21dd591097a1b3d418a1", func := "customs/customslaw35.TransitSeals", spec := "transitSeals", unfollowed := true, recurses := true, named := ["customs/transit.changes"], apart := false, laid := [("customs/transit.changes", laid_customs_transit_changes)], narrowed := true }
def TransitSealsUptoSaid : Prop := transitSealsUptoRow.holds Tryd.pinned (OpenSpec.upto transitSealsSpec)

/-- 'customslaw35.TransitBelief', WHERE WHAT IT READS IS OF BULK AT MOST 1048576: true; the input reads as it did. -/
def transitBeliefUptoRow : OpenClaim := { program := "ytbndoihcejieoaadoor", sum := "e334f1d129de8397177f63a4e627048e57cd59874add21dd591097a1b3d418a1", func := "customs/customslaw35.TransitBelief", spec := "transitBelief", unfollowed := true, recurses := true, named := ["customs/transit.changes"], apart := false, laid := [("customs/transit.changes", laid_customs_transit_changes)], narrowed := true }
def TransitBeliefUptoSaid : Prop := transitBeliefUptoRow.holds Tryd.pinned (OpenSpec.upto transitBeliefSpec)

/-- 'customslaw35.TransitDeparture', WHERE WHAT IT READS IS OF BULK AT MOST 1048576: true; the input reads as it did. -/
def transitDepartureUptoRow : OpenClaim := { program := "ytbndoihcejieoaadoor", sum := "e334f1d129de8397177f63a4e627048e57cd59874add21dd591097a1b3d418a1", func := "customs/customslaw35.TransitDeparture", spec := "transitDeparture", unfollowed := true, recurses := true, named := ["customs/calendar.lengths", "customs/transit.changes"], apart := false, laid := [("customs/calendar.lengths", laid_customs_calendar_lengths), ("customs/transit.changes", laid_customs_transit_changes)], narrowed := true }
def TransitDepartureUptoSaid : Prop := transitDepartureUptoRow.holds Tryd.pinned (OpenSpec.upto transitDepartureSpec)

end Rows
end Go.Proofs.YtbndoihcejieoaaDoor
