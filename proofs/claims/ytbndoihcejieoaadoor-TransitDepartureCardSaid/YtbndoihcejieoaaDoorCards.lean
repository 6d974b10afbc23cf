/-
  DERIVED. GIVEN WITH THE SEED: THE CARDS: each row of YtbndoihcejieoaaDoorRows.lean that lists a variable, with what it lists TIED to the program's text (the seventh form; the later family's looks); each row that meets fmt, with fmt's text TOLD by the authors' own Lean function (tested against real Go, not proved from fmt's source: count such statements apart). THE CARD IS WHAT COUNTS. Prove the row's statement (the work); the ties are given (YtbndoihcejieoaaDoorTie.lean); close each card by the builder's one call (the guide's Derived/Test/ToyasCard.lean, 'card_holds'). Laid BY PROGRAM, IN A SANDBOX (cutbox-door.mjs). By AI agents, Wed Nov 11 2026. No macro, syntax, notation, axiom, sorry.
-/
import Derived.Test.YtbndoihcejieoaaDoorRows
import GoSem.ClaimSeven
namespace Go.Proofs.YtbndoihcejieoaaDoor
namespace Rows

/-- THE TIED CARD OF 'customslaw35.TransitArrival'. -/
def transitArrivalCard : Claim7 := { stood := { row := transitArrivalRow, standIns := [], harness := (true, "d343da5cd7a1261890156307d7a9e62f44eed23e7391c30dd9a5bf23ca3d943d"), looks := false }, kinds := [], alts := [], laidByText := true, laidKinds := [.data], laidTests := true, laidLooks := .later }
def TransitArrivalCardSaid : Prop := Claim7.holds Tryd.pinned (.plain (OpenSpec.ofChange transitArrivalSpec)) transitArrivalCard

/-- THE TIED CARD OF 'customslaw35.TransitOneEnd'. -/
def transitOneEndCard : Claim7 := { stood := { row := transitOneEndRow, standIns := [], harness := (true, "d343da5cd7a1261890156307d7a9e62f44eed23e7391c30dd9a5bf23ca3d943d"), looks := false }, kinds := [], alts := [], laidByText := true, laidKinds := [.data], laidTests := true, laidLooks := .later }
def TransitOneEndCardSaid : Prop := Claim7.holds Tryd.pinned (.plain (OpenSpec.ofChange transitOneEndSpec)) transitOneEndCard

/-- THE TIED CARD OF 'customslaw35.TransitSeals'. -/
def transitSealsCard : Claim7 := { stood := { row := transitSealsRow, standIns := [], harness := (true, "d343da5cd7a1261890156307d7a9e62f44eed23e7391c30dd9a5bf23ca3d943d"), looks := false }, kinds := [], alts := [], laidByText := true, laidKinds := [.data], laidTests := true, laidLooks := .later }
def TransitSealsCardSaid : Prop := Claim7.holds Tryd.pinned (.plain (OpenSpec.ofChange transitSealsSpec)) transitSealsCard

/-- THE TIED CARD OF 'customslaw35.TransitBelief'. -/
def transitBeliefCard : Claim7 := { stood := { row := transitBeliefRow, standIns := [], harness := (true, "d343da5cd7a1261890156307d7a9e62f44eed23e7391c30dd9a5bf23ca3d943d"), looks := false }, kinds := [], alts := [], laidByText := true, laidKinds := [.data], laidTests := true, laidLooks := .later }
def TransitBeliefCardSaid : Prop := Claim7.holds Tryd.pinned (.plain (OpenSpec.ofChange transitBeliefSpec)) transitBeliefCard

/-- THE TIED CARD OF 'customslaw35.TransitDeparture'. -/
def transitDepartureCard : Claim7 := { stood := { row := transitDepartureRow, standIns := [], harness := (true, "d343da5cd7a1261890156307d7a9e62f44eed23e7391c30dd9a5bf23ca3d943d"), looks := false }, kinds := [], alts := [], laidByText := true, laidKinds := [.data, .data], laidTests := true, laidLooks := .later }
def TransitDepartureCardSaid : Prop := Claim7.holds Tryd.pinned (.plain (OpenSpec.ofChange transitDepartureSpec)) transitDepartureCard

/-- THE SECOND FORM's CARD OF 'customslaw35.TransitArrival'. -/
def transitArrivalUptoCard : Claim7 := { stood := { row := transitArrivalUptoRow, standIns := [], harness := (true, "d343da5cd7a1261890156307d7a9e62f44eed23e7391c30dd9a5bf23ca3d943d"), looks := false }, kinds := [], alts := [], laidByText := true, laidKinds := [.data], laidTests := true, laidLooks := .later }
def TransitArrivalUptoCardSaid : Prop := Claim7.holds Tryd.pinned (.plain (OpenSpec.upto transitArrivalSpec)) transitArrivalUptoCard

/-- THE SECOND FORM's CARD OF 'customslaw35.TransitOneEnd'. -/
def transitOneEndUptoCard : Claim7 := { stood := { row := transitOneEndUptoRow, standIns := [], harness := (true, "d343da5cd7a1261890156307d7a9e62f44eed23e7391c30dd9a5bf23ca3d943d"), looks := false }, kinds := [], alts := [], laidByText := true, laidKinds := [.data], laidTests := true, laidLooks := .later }
def TransitOneEndUptoCardSaid : Prop := Claim7.holds Tryd.pinned (.plain (OpenSpec.upto transitOneEndSpec)) transitOneEndUptoCard

/-- THE SECOND FORM's CARD OF 'customslaw35.TransitSeals'. -/
def transitSealsUptoCard : Claim7 := { stood := { row := transitSealsUptoRow, standIns := [], harness := (true, "d343da5cd7a1261890156307d7a9e62f44eed23e7391c30dd9a5bf23ca3d943d"), looks := false }, kinds := [], alts := [], laidByText := true, laidKinds := [.data], laidTests := true, laidLooks := .later }
def TransitSealsUptoCardSaid : Prop := Claim7.holds Tryd.pinned (.plain (OpenSpec.upto transitSealsSpec)) transitSealsUptoCard

/-- THE SECOND FORM's CARD OF 'customslaw35.TransitBelief'. -/
def transitBeliefUptoCard : Claim7 := { stood := { row := transitBeliefUptoRow, standIns := [], harness := (true, "d343da5cd7a1261890156307d7a9e62f44eed23e7391c30dd9a5bf23ca3d943d"), looks := false }, kinds := [], alts := [], laidByText := true, laidKinds := [.data], laidTests := true, laidLooks := .later }
def TransitBeliefUptoCardSaid : Prop := Claim7.holds Tryd.pinned (.plain (OpenSpec.upto transitBeliefSpec)) transitBeliefUptoCard

/-- THE SECOND FORM's CARD OF 'customslaw35.TransitDeparture'. -/
def transitDepartureUptoCard : Claim7 := { stood := { row := transitDepartureUptoRow, standIns := [], harness := (true, "d343da5cd7a1261890156307d7a9e62f44eed23e7391c30dd9a5bf23ca3d943d"), looks := false }, kinds := [], alts := [], laidByText := true, laidKinds := [.data, .data], laidTests := true, laidLooks := .later }
def TransitDepartureUptoCardSaid : Prop := Claim7.holds Tryd.pinned (.plain (OpenSpec.upto transitDepartureSpec)) transitDepartureUptoCard
end Rows
end Go.Proofs.YtbndoihcejieoaaDoor
