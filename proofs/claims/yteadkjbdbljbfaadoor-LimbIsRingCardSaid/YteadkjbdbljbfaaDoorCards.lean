/-
  DERIVED. GIVEN WITH THE SEED: THE CARDS: each row of YteadkjbdbljbfaaDoorRows.lean that lists a variable, with what it lists TIED to the program's text (the seventh form; the later family's looks); each row that meets fmt, with fmt's text TOLD by the authors' own Lean function (tested against real Go, not proved from fmt's source: count such statements apart). THE CARD IS WHAT COUNTS. Prove the row's statement (the work); the ties are given (YteadkjbdbljbfaaDoorTie.lean); close each card by the builder's one call (the guide's Derived/Test/ToyasCard.lean, 'card_holds'). Laid BY PROGRAM, IN A SANDBOX (cutbox-door.mjs). By AI agents, Wed Nov 11 2026. No macro, syntax, notation, axiom, sorry.
-/
import Derived.Test.YteadkjbdbljbfaaDoorRows
import GoSem.ClaimSeven
namespace Go.Proofs.YteadkjbdbljbfaaDoor
namespace Rows

/-- THE TIED CARD OF 'geofencelaw03.LimbConverts'. -/
def limbConvertsCard : Claim7 := { stood := { row := limbConvertsRow, standIns := [], harness := (true, "6a586cc00bc2fe274d38df18ff34e3d6155177ff5f5e56f1faf733a953b959c7"), looks := false }, kinds := [], alts := [], laidByText := true, laidKinds := [.data], laidTests := true, laidLooks := .later }
def LimbConvertsCardSaid : Prop := Claim7.holds Tryd.pinned (.plain (OpenSpec.ofChange limbConvertsSpec)) limbConvertsCard

/-- THE TIED CARD OF 'geofencelaw03.LimbMultiplies'. -/
def limbMultipliesCard : Claim7 := { stood := { row := limbMultipliesRow, standIns := [], harness := (true, "6a586cc00bc2fe274d38df18ff34e3d6155177ff5f5e56f1faf733a953b959c7"), looks := false }, kinds := [], alts := [], laidByText := true, laidKinds := [.data], laidTests := true, laidLooks := .later }
def LimbMultipliesCardSaid : Prop := Claim7.holds Tryd.pinned (.plain (OpenSpec.ofChange limbMultipliesSpec)) limbMultipliesCard

/-- THE TIED CARD OF 'geofencelaw03.LimbSelects'. -/
def limbSelectsCard : Claim7 := { stood := { row := limbSelectsRow, standIns := [], harness := (true, "6a586cc00bc2fe274d38df18ff34e3d6155177ff5f5e56f1faf733a953b959c7"), looks := false }, kinds := [], alts := [], laidByText := true, laidKinds := [.data], laidTests := true, laidLooks := .later }
def LimbSelectsCardSaid : Prop := Claim7.holds Tryd.pinned (.plain (OpenSpec.ofChange limbSelectsSpec)) limbSelectsCard

/-- THE TIED CARD OF 'geofencelaw03.LimbIsRing'. -/
def limbIsRingCard : Claim7 := { stood := { row := limbIsRingRow, standIns := [], harness := (true, "6a586cc00bc2fe274d38df18ff34e3d6155177ff5f5e56f1faf733a953b959c7"), looks := false }, kinds := [], alts := [], laidByText := true, laidKinds := [.data], laidTests := true, laidLooks := .later }
def LimbIsRingCardSaid : Prop := Claim7.holds Tryd.pinned (.plain (OpenSpec.ofChange limbIsRingSpec)) limbIsRingCard

/-- THE TIED CARD OF 'geofencelaw03.LimbFits'. -/
def limbFitsCard : Claim7 := { stood := { row := limbFitsRow, standIns := [], harness := (true, "6a586cc00bc2fe274d38df18ff34e3d6155177ff5f5e56f1faf733a953b959c7"), looks := false }, kinds := [], alts := [], laidByText := true, laidKinds := [.data], laidTests := true, laidLooks := .later }
def LimbFitsCardSaid : Prop := Claim7.holds Tryd.pinned (.plain (OpenSpec.ofChange limbFitsSpec)) limbFitsCard

/-- THE TIED CARD OF 'geofencelaw03.LimbCompares'. -/
def limbComparesCard : Claim7 := { stood := { row := limbComparesRow, standIns := [], harness := (true, "6a586cc00bc2fe274d38df18ff34e3d6155177ff5f5e56f1faf733a953b959c7"), looks := false }, kinds := [], alts := [], laidByText := true, laidKinds := [.data], laidTests := true, laidLooks := .later }
def LimbComparesCardSaid : Prop := Claim7.holds Tryd.pinned (.plain (OpenSpec.ofChange limbComparesSpec)) limbComparesCard

/-- THE TIED CARD OF 'geofencelaw03.LimbAdds'. -/
def limbAddsCard : Claim7 := { stood := { row := limbAddsRow, standIns := [], harness := (true, "6a586cc00bc2fe274d38df18ff34e3d6155177ff5f5e56f1faf733a953b959c7"), looks := false }, kinds := [], alts := [], laidByText := true, laidKinds := [.data], laidTests := true, laidLooks := .later }
def LimbAddsCardSaid : Prop := Claim7.holds Tryd.pinned (.plain (OpenSpec.ofChange limbAddsSpec)) limbAddsCard

/-- THE SECOND FORM's CARD OF 'geofencelaw03.LimbConverts'. -/
def limbConvertsUptoCard : Claim7 := { stood := { row := limbConvertsUptoRow, standIns := [], harness := (true, "6a586cc00bc2fe274d38df18ff34e3d6155177ff5f5e56f1faf733a953b959c7"), looks := false }, kinds := [], alts := [], laidByText := true, laidKinds := [.data], laidTests := true, laidLooks := .later }
def LimbConvertsUptoCardSaid : Prop := Claim7.holds Tryd.pinned (.plain (OpenSpec.upto limbConvertsSpec)) limbConvertsUptoCard

/-- THE SECOND FORM's CARD OF 'geofencelaw03.LimbMultiplies'. -/
def limbMultipliesUptoCard : Claim7 := { stood := { row := limbMultipliesUptoRow, standIns := [], harness := (true, "6a586cc00bc2fe274d38df18ff34e3d6155177ff5f5e56f1faf733a953b959c7"), looks := false }, kinds := [], alts := [], laidByText := true, laidKinds := [.data], laidTests := true, laidLooks := .later }
def LimbMultipliesUptoCardSaid : Prop := Claim7.holds Tryd.pinned (.plain (OpenSpec.upto limbMultipliesSpec)) limbMultipliesUptoCard

/-- THE SECOND FORM's CARD OF 'geofencelaw03.LimbSelects'. -/
def limbSelectsUptoCard : Claim7 := { stood := { row := limbSelectsUptoRow, standIns := [], harness := (true, "6a586cc00bc2fe274d38df18ff34e3d6155177ff5f5e56f1faf733a953b959c7"), looks := false }, kinds := [], alts := [], laidByText := true, laidKinds := [.data], laidTests := true, laidLooks := .later }
def LimbSelectsUptoCardSaid : Prop := Claim7.holds Tryd.pinned (.plain (OpenSpec.upto limbSelectsSpec)) limbSelectsUptoCard

/-- THE SECOND FORM's CARD OF 'geofencelaw03.LimbIsRing'. -/
def limbIsRingUptoCard : Claim7 := { stood := { row := limbIsRingUptoRow, standIns := [], harness := (true, "6a586cc00bc2fe274d38df18ff34e3d6155177ff5f5e56f1faf733a953b959c7"), looks := false }, kinds := [], alts := [], laidByText := true, laidKinds := [.data], laidTests := true, laidLooks := .later }
def LimbIsRingUptoCardSaid : Prop := Claim7.holds Tryd.pinned (.plain (OpenSpec.upto limbIsRingSpec)) limbIsRingUptoCard

/-- THE SECOND FORM's CARD OF 'geofencelaw03.LimbFits'. -/
def limbFitsUptoCard : Claim7 := { stood := { row := limbFitsUptoRow, standIns := [], harness := (true, "6a586cc00bc2fe274d38df18ff34e3d6155177ff5f5e56f1faf733a953b959c7"), looks := false }, kinds := [], alts := [], laidByText := true, laidKinds := [.data], laidTests := true, laidLooks := .later }
def LimbFitsUptoCardSaid : Prop := Claim7.holds Tryd.pinned (.plain (OpenSpec.upto limbFitsSpec)) limbFitsUptoCard

/-- THE SECOND FORM's CARD OF 'geofencelaw03.LimbCompares'. -/
def limbComparesUptoCard : Claim7 := { stood := { row := limbComparesUptoRow, standIns := [], harness := (true, "6a586cc00bc2fe274d38df18ff34e3d6155177ff5f5e56f1faf733a953b959c7"), looks := false }, kinds := [], alts := [], laidByText := true, laidKinds := [.data], laidTests := true, laidLooks := .later }
def LimbComparesUptoCardSaid : Prop := Claim7.holds Tryd.pinned (.plain (OpenSpec.upto limbComparesSpec)) limbComparesUptoCard

/-- THE SECOND FORM's CARD OF 'geofencelaw03.LimbAdds'. -/
def limbAddsUptoCard : Claim7 := { stood := { row := limbAddsUptoRow, standIns := [], harness := (true, "6a586cc00bc2fe274d38df18ff34e3d6155177ff5f5e56f1faf733a953b959c7"), looks := false }, kinds := [], alts := [], laidByText := true, laidKinds := [.data], laidTests := true, laidLooks := .later }
def LimbAddsUptoCardSaid : Prop := Claim7.holds Tryd.pinned (.plain (OpenSpec.upto limbAddsSpec)) limbAddsUptoCard
end Rows
end Go.Proofs.YteadkjbdbljbfaaDoor
