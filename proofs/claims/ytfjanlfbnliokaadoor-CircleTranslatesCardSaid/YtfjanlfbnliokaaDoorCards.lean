/-
  DERIVED. GIVEN WITH THE SEED: THE CARDS: each row of YtfjanlfbnliokaaDoorRows.lean that lists a variable, with what it lists TIED to the program's text (the seventh form; the later family's looks); each row that meets fmt, with fmt's text TOLD by the authors' own Lean function (tested against real Go, not proved from fmt's source: count such statements apart). THE CARD IS WHAT COUNTS. Prove the row's statement (the work); the ties are given (YtfjanlfbnliokaaDoorTie.lean); close each card by the builder's one call (the guide's Derived/Test/ToyasCard.lean, 'card_holds'). Laid BY PROGRAM, IN A SANDBOX (cutbox-door.mjs). By AI agents, Wed Nov 11 2026. No macro, syntax, notation, axiom, sorry.
-/
import Derived.Test.YtfjanlfbnliokaaDoorRows
import GoSem.ClaimSeven
namespace Go.Proofs.YtfjanlfbnliokaaDoor
namespace Rows

/-- THE TIED CARD OF 'geofencelaw06.OrientIsExact'. -/
def orientIsExactCard : Claim7 := { stood := { row := orientIsExactRow, standIns := [], harness := (true, "f60e4078193da62904e708fc7ed2a9960ffb850b70033b90a1d4e97d96dd0b99"), looks := false }, kinds := [], alts := [], laidByText := true, laidKinds := [.data, .data], laidTests := true, laidLooks := .later }
def OrientIsExactCardSaid : Prop := Claim7.holds Tryd.pinned (.plain (OpenSpec.ofChange orientIsExactSpec)) orientIsExactCard

/-- THE TIED CARD OF 'geofencelaw06.OrientMasks'. -/
def orientMasksCard : Claim7 := { stood := { row := orientMasksRow, standIns := [], harness := (true, "f60e4078193da62904e708fc7ed2a9960ffb850b70033b90a1d4e97d96dd0b99"), looks := false }, kinds := [], alts := [], laidByText := true, laidKinds := [.data, .data], laidTests := true, laidLooks := .later }
def OrientMasksCardSaid : Prop := Claim7.holds Tryd.pinned (.plain (OpenSpec.ofChange orientMasksSpec)) orientMasksCard

/-- THE TIED CARD OF 'geofencelaw06.OrientAlternates'. -/
def orientAlternatesCard : Claim7 := { stood := { row := orientAlternatesRow, standIns := [], harness := (true, "f60e4078193da62904e708fc7ed2a9960ffb850b70033b90a1d4e97d96dd0b99"), looks := false }, kinds := [], alts := [], laidByText := true, laidKinds := [.data, .data], laidTests := true, laidLooks := .later }
def OrientAlternatesCardSaid : Prop := Claim7.holds Tryd.pinned (.plain (OpenSpec.ofChange orientAlternatesSpec)) orientAlternatesCard

/-- THE TIED CARD OF 'geofencelaw06.OrientTranslates'. -/
def orientTranslatesCard : Claim7 := { stood := { row := orientTranslatesRow, standIns := [], harness := (true, "f60e4078193da62904e708fc7ed2a9960ffb850b70033b90a1d4e97d96dd0b99"), looks := false }, kinds := [], alts := [], laidByText := true, laidKinds := [.data, .data], laidTests := true, laidLooks := .later }
def OrientTranslatesCardSaid : Prop := Claim7.holds Tryd.pinned (.plain (OpenSpec.ofChange orientTranslatesSpec)) orientTranslatesCard

/-- THE TIED CARD OF 'geofencelaw06.OrientAddsUp'. -/
def orientAddsUpCard : Claim7 := { stood := { row := orientAddsUpRow, standIns := [], harness := (true, "f60e4078193da62904e708fc7ed2a9960ffb850b70033b90a1d4e97d96dd0b99"), looks := false }, kinds := [], alts := [], laidByText := true, laidKinds := [.data, .data], laidTests := true, laidLooks := .later }
def OrientAddsUpCardSaid : Prop := Claim7.holds Tryd.pinned (.plain (OpenSpec.ofChange orientAddsUpSpec)) orientAddsUpCard

/-- THE TIED CARD OF 'geofencelaw06.OrientFits'. -/
def orientFitsCard : Claim7 := { stood := { row := orientFitsRow, standIns := [], harness := (true, "f60e4078193da62904e708fc7ed2a9960ffb850b70033b90a1d4e97d96dd0b99"), looks := false }, kinds := [], alts := [], laidByText := true, laidKinds := [.data, .data], laidTests := true, laidLooks := .later }
def OrientFitsCardSaid : Prop := Claim7.holds Tryd.pinned (.plain (OpenSpec.ofChange orientFitsSpec)) orientFitsCard

/-- THE TIED CARD OF 'geofencelaw07.CircleIsExact'. -/
def circleIsExactCard : Claim7 := { stood := { row := circleIsExactRow, standIns := [], harness := (true, "f60e4078193da62904e708fc7ed2a9960ffb850b70033b90a1d4e97d96dd0b99"), looks := false }, kinds := [], alts := [], laidByText := true, laidKinds := [.data], laidTests := true, laidLooks := .later }
def CircleIsExactCardSaid : Prop := Claim7.holds Tryd.pinned (.plain (OpenSpec.ofChange circleIsExactSpec)) circleIsExactCard

/-- THE TIED CARD OF 'geofencelaw07.CircleSides'. -/
def circleSidesCard : Claim7 := { stood := { row := circleSidesRow, standIns := [], harness := (true, "f60e4078193da62904e708fc7ed2a9960ffb850b70033b90a1d4e97d96dd0b99"), looks := false }, kinds := [], alts := [], laidByText := true, laidKinds := [.data], laidTests := true, laidLooks := .later }
def CircleSidesCardSaid : Prop := Claim7.holds Tryd.pinned (.plain (OpenSpec.ofChange circleSidesSpec)) circleSidesCard

/-- THE TIED CARD OF 'geofencelaw07.CircleAlternates'. -/
def circleAlternatesCard : Claim7 := { stood := { row := circleAlternatesRow, standIns := [], harness := (true, "f60e4078193da62904e708fc7ed2a9960ffb850b70033b90a1d4e97d96dd0b99"), looks := false }, kinds := [], alts := [], laidByText := true, laidKinds := [.data], laidTests := true, laidLooks := .later }
def CircleAlternatesCardSaid : Prop := Claim7.holds Tryd.pinned (.plain (OpenSpec.ofChange circleAlternatesSpec)) circleAlternatesCard

/-- THE TIED CARD OF 'geofencelaw07.CircleTranslates'. -/
def circleTranslatesCard : Claim7 := { stood := { row := circleTranslatesRow, standIns := [], harness := (true, "f60e4078193da62904e708fc7ed2a9960ffb850b70033b90a1d4e97d96dd0b99"), looks := false }, kinds := [], alts := [], laidByText := true, laidKinds := [.data], laidTests := true, laidLooks := .later }
def CircleTranslatesCardSaid : Prop := Claim7.holds Tryd.pinned (.plain (OpenSpec.ofChange circleTranslatesSpec)) circleTranslatesCard

/-- THE TIED CARD OF 'geofencelaw07.CircleCorners'. -/
def circleCornersCard : Claim7 := { stood := { row := circleCornersRow, standIns := [], harness := (true, "f60e4078193da62904e708fc7ed2a9960ffb850b70033b90a1d4e97d96dd0b99"), looks := false }, kinds := [], alts := [], laidByText := true, laidKinds := [.data], laidTests := true, laidLooks := .later }
def CircleCornersCardSaid : Prop := Claim7.holds Tryd.pinned (.plain (OpenSpec.ofChange circleCornersSpec)) circleCornersCard

/-- THE TIED CARD OF 'geofencelaw07.CircleOnItself'. -/
def circleOnItselfCard : Claim7 := { stood := { row := circleOnItselfRow, standIns := [], harness := (true, "f60e4078193da62904e708fc7ed2a9960ffb850b70033b90a1d4e97d96dd0b99"), looks := false }, kinds := [], alts := [], laidByText := true, laidKinds := [.data], laidTests := true, laidLooks := .later }
def CircleOnItselfCardSaid : Prop := Claim7.holds Tryd.pinned (.plain (OpenSpec.ofChange circleOnItselfSpec)) circleOnItselfCard

/-- THE SECOND FORM's CARD OF 'geofencelaw06.OrientIsExact'. -/
def orientIsExactUptoCard : Claim7 := { stood := { row := orientIsExactUptoRow, standIns := [], harness := (true, "f60e4078193da62904e708fc7ed2a9960ffb850b70033b90a1d4e97d96dd0b99"), looks := false }, kinds := [], alts := [], laidByText := true, laidKinds := [.data, .data], laidTests := true, laidLooks := .later }
def OrientIsExactUptoCardSaid : Prop := Claim7.holds Tryd.pinned (.plain (OpenSpec.upto orientIsExactSpec)) orientIsExactUptoCard

/-- THE SECOND FORM's CARD OF 'geofencelaw06.OrientMasks'. -/
def orientMasksUptoCard : Claim7 := { stood := { row := orientMasksUptoRow, standIns := [], harness := (true, "f60e4078193da62904e708fc7ed2a9960ffb850b70033b90a1d4e97d96dd0b99"), looks := false }, kinds := [], alts := [], laidByText := true, laidKinds := [.data, .data], laidTests := true, laidLooks := .later }
def OrientMasksUptoCardSaid : Prop := Claim7.holds Tryd.pinned (.plain (OpenSpec.upto orientMasksSpec)) orientMasksUptoCard

/-- THE SECOND FORM's CARD OF 'geofencelaw06.OrientAlternates'. -/
def orientAlternatesUptoCard : Claim7 := { stood := { row := orientAlternatesUptoRow, standIns := [], harness := (true, "f60e4078193da62904e708fc7ed2a9960ffb850b70033b90a1d4e97d96dd0b99"), looks := false }, kinds := [], alts := [], laidByText := true, laidKinds := [.data, .data], laidTests := true, laidLooks := .later }
def OrientAlternatesUptoCardSaid : Prop := Claim7.holds Tryd.pinned (.plain (OpenSpec.upto orientAlternatesSpec)) orientAlternatesUptoCard

/-- THE SECOND FORM's CARD OF 'geofencelaw06.OrientTranslates'. -/
def orientTranslatesUptoCard : Claim7 := { stood := { row := orientTranslatesUptoRow, standIns := [], harness := (true, "f60e4078193da62904e708fc7ed2a9960ffb850b70033b90a1d4e97d96dd0b99"), looks := false }, kinds := [], alts := [], laidByText := true, laidKinds := [.data, .data], laidTests := true, laidLooks := .later }
def OrientTranslatesUptoCardSaid : Prop := Claim7.holds Tryd.pinned (.plain (OpenSpec.upto orientTranslatesSpec)) orientTranslatesUptoCard

/-- THE SECOND FORM's CARD OF 'geofencelaw06.OrientAddsUp'. -/
def orientAddsUpUptoCard : Claim7 := { stood := { row := orientAddsUpUptoRow, standIns := [], harness := (true, "f60e4078193da62904e708fc7ed2a9960ffb850b70033b90a1d4e97d96dd0b99"), looks := false }, kinds := [], alts := [], laidByText := true, laidKinds := [.data, .data], laidTests := true, laidLooks := .later }
def OrientAddsUpUptoCardSaid : Prop := Claim7.holds Tryd.pinned (.plain (OpenSpec.upto orientAddsUpSpec)) orientAddsUpUptoCard

/-- THE SECOND FORM's CARD OF 'geofencelaw06.OrientFits'. -/
def orientFitsUptoCard : Claim7 := { stood := { row := orientFitsUptoRow, standIns := [], harness := (true, "f60e4078193da62904e708fc7ed2a9960ffb850b70033b90a1d4e97d96dd0b99"), looks := false }, kinds := [], alts := [], laidByText := true, laidKinds := [.data, .data], laidTests := true, laidLooks := .later }
def OrientFitsUptoCardSaid : Prop := Claim7.holds Tryd.pinned (.plain (OpenSpec.upto orientFitsSpec)) orientFitsUptoCard

/-- THE SECOND FORM's CARD OF 'geofencelaw07.CircleIsExact'. -/
def circleIsExactUptoCard : Claim7 := { stood := { row := circleIsExactUptoRow, standIns := [], harness := (true, "f60e4078193da62904e708fc7ed2a9960ffb850b70033b90a1d4e97d96dd0b99"), looks := false }, kinds := [], alts := [], laidByText := true, laidKinds := [.data], laidTests := true, laidLooks := .later }
def CircleIsExactUptoCardSaid : Prop := Claim7.holds Tryd.pinned (.plain (OpenSpec.upto circleIsExactSpec)) circleIsExactUptoCard

/-- THE SECOND FORM's CARD OF 'geofencelaw07.CircleSides'. -/
def circleSidesUptoCard : Claim7 := { stood := { row := circleSidesUptoRow, standIns := [], harness := (true, "f60e4078193da62904e708fc7ed2a9960ffb850b70033b90a1d4e97d96dd0b99"), looks := false }, kinds := [], alts := [], laidByText := true, laidKinds := [.data], laidTests := true, laidLooks := .later }
def CircleSidesUptoCardSaid : Prop := Claim7.holds Tryd.pinned (.plain (OpenSpec.upto circleSidesSpec)) circleSidesUptoCard

/-- THE SECOND FORM's CARD OF 'geofencelaw07.CircleAlternates'. -/
def circleAlternatesUptoCard : Claim7 := { stood := { row := circleAlternatesUptoRow, standIns := [], harness := (true, "f60e4078193da62904e708fc7ed2a9960ffb850b70033b90a1d4e97d96dd0b99"), looks := false }, kinds := [], alts := [], laidByText := true, laidKinds := [.data], laidTests := true, laidLooks := .later }
def CircleAlternatesUptoCardSaid : Prop := Claim7.holds Tryd.pinned (.plain (OpenSpec.upto circleAlternatesSpec)) circleAlternatesUptoCard

/-- THE SECOND FORM's CARD OF 'geofencelaw07.CircleTranslates'. -/
def circleTranslatesUptoCard : Claim7 := { stood := { row := circleTranslatesUptoRow, standIns := [], harness := (true, "f60e4078193da62904e708fc7ed2a9960ffb850b70033b90a1d4e97d96dd0b99"), looks := false }, kinds := [], alts := [], laidByText := true, laidKinds := [.data], laidTests := true, laidLooks := .later }
def CircleTranslatesUptoCardSaid : Prop := Claim7.holds Tryd.pinned (.plain (OpenSpec.upto circleTranslatesSpec)) circleTranslatesUptoCard

/-- THE SECOND FORM's CARD OF 'geofencelaw07.CircleCorners'. -/
def circleCornersUptoCard : Claim7 := { stood := { row := circleCornersUptoRow, standIns := [], harness := (true, "f60e4078193da62904e708fc7ed2a9960ffb850b70033b90a1d4e97d96dd0b99"), looks := false }, kinds := [], alts := [], laidByText := true, laidKinds := [.data], laidTests := true, laidLooks := .later }
def CircleCornersUptoCardSaid : Prop := Claim7.holds Tryd.pinned (.plain (OpenSpec.upto circleCornersSpec)) circleCornersUptoCard

/-- THE SECOND FORM's CARD OF 'geofencelaw07.CircleOnItself'. -/
def circleOnItselfUptoCard : Claim7 := { stood := { row := circleOnItselfUptoRow, standIns := [], harness := (true, "f60e4078193da62904e708fc7ed2a9960ffb850b70033b90a1d4e97d96dd0b99"), looks := false }, kinds := [], alts := [], laidByText := true, laidKinds := [.data], laidTests := true, laidLooks := .later }
def CircleOnItselfUptoCardSaid : Prop := Claim7.holds Tryd.pinned (.plain (OpenSpec.upto circleOnItselfSpec)) circleOnItselfUptoCard
end Rows
end Go.Proofs.YtfjanlfbnliokaaDoor
