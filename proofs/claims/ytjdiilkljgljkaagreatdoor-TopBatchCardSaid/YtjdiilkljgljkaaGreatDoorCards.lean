/-
  DERIVED. GIVEN WITH THE SEED: THE CARDS: each row of YtjdiilkljgljkaaGreatDoorRows.lean that lists a variable, with what it lists TIED to the program's text (the seventh form; the later family's looks); each row that meets fmt, with fmt's text TOLD by the authors' own Lean function (tested against real Go, not proved from fmt's source: count such statements apart). THE CARD IS WHAT COUNTS. Prove the row's statement (the work); the ties are given (YtjdiilkljgljkaaGreatDoorTie.lean); close each card by the builder's one call (the guide's Derived/Test/ToyasCard.lean, 'card_holds'). Laid BY PROGRAM, IN A SANDBOX (cutbox-door.mjs). By AI agents, Wed Nov 11 2026. No macro, syntax, notation, axiom, sorry.
-/
import Derived.Test.YtjdiilkljgljkaaGreatDoorRows
import GoSem.ClaimSeven
namespace Go.Proofs.YtjdiilkljgljkaaGreatDoor
namespace Rows

/-- THE TIED CARD OF 'geofencetop.TopOrient'. -/
def topOrientCard : Claim7 := { stood := { row := topOrientRow, standIns := [], harness := (true, "12329a7c67709a93903b16e524d89279a6ca2fb2a180c5706bbb474e0d21eaee"), looks := false }, kinds := [], alts := [], laidByText := true, laidKinds := [.data, .data], laidTests := true, laidLooks := .later }
def TopOrientCardSaid : Prop := Claim7.holds Tryz.pinned (.plain (OpenSpec.ofChange topOrientSpec)) topOrientCard

/-- THE TIED CARD OF 'geofencetop.TopCircle'. -/
def topCircleCard : Claim7 := { stood := { row := topCircleRow, standIns := [], harness := (true, "12329a7c67709a93903b16e524d89279a6ca2fb2a180c5706bbb474e0d21eaee"), looks := false }, kinds := [], alts := [], laidByText := true, laidKinds := [.data, .data], laidTests := true, laidLooks := .later }
def TopCircleCardSaid : Prop := Claim7.holds Tryz.pinned (.plain (OpenSpec.ofChange topCircleSpec)) topCircleCard

/-- THE TIED CARD OF 'geofencetop.TopFence'. -/
def topFenceCard : Claim7 := { stood := { row := topFenceRow, standIns := [], harness := (true, "12329a7c67709a93903b16e524d89279a6ca2fb2a180c5706bbb474e0d21eaee"), looks := false }, kinds := [], alts := [], laidByText := true, laidKinds := [.data, .data], laidTests := true, laidLooks := .later }
def TopFenceCardSaid : Prop := Claim7.holds Tryz.pinned (.plain (OpenSpec.ofChange topFenceSpec)) topFenceCard

/-- THE TIED CARD OF 'geofencetop.TopBatch'. -/
def topBatchCard : Claim7 := { stood := { row := topBatchRow, standIns := [], harness := (true, "12329a7c67709a93903b16e524d89279a6ca2fb2a180c5706bbb474e0d21eaee"), looks := false }, kinds := [], alts := [], laidByText := true, laidKinds := [.data, .data], laidTests := true, laidLooks := .later }
def TopBatchCardSaid : Prop := Claim7.holds Tryz.pinned (.plain (OpenSpec.ofChange topBatchSpec)) topBatchCard

/-- THE TIED CARD OF 'geofencetop.TopSmall'. -/
def topSmallCard : Claim7 := { stood := { row := topSmallRow, standIns := [], harness := (true, "12329a7c67709a93903b16e524d89279a6ca2fb2a180c5706bbb474e0d21eaee"), looks := false }, kinds := [], alts := [], laidByText := true, laidKinds := [.data, .data], laidTests := true, laidLooks := .later }
def TopSmallCardSaid : Prop := Claim7.holds Tryz.pinned (.plain (OpenSpec.ofChange topSmallSpec)) topSmallCard

/-- THE SECOND FORM's CARD OF 'geofencetop.TopOrient'. -/
def topOrientUptoCard : Claim7 := { stood := { row := topOrientUptoRow, standIns := [], harness := (true, "12329a7c67709a93903b16e524d89279a6ca2fb2a180c5706bbb474e0d21eaee"), looks := false }, kinds := [], alts := [], laidByText := true, laidKinds := [.data, .data], laidTests := true, laidLooks := .later }
def TopOrientUptoCardSaid : Prop := Claim7.holds Tryz.pinned (.plain (OpenSpec.upto topOrientSpec)) topOrientUptoCard

/-- THE SECOND FORM's CARD OF 'geofencetop.TopCircle'. -/
def topCircleUptoCard : Claim7 := { stood := { row := topCircleUptoRow, standIns := [], harness := (true, "12329a7c67709a93903b16e524d89279a6ca2fb2a180c5706bbb474e0d21eaee"), looks := false }, kinds := [], alts := [], laidByText := true, laidKinds := [.data, .data], laidTests := true, laidLooks := .later }
def TopCircleUptoCardSaid : Prop := Claim7.holds Tryz.pinned (.plain (OpenSpec.upto topCircleSpec)) topCircleUptoCard

/-- THE SECOND FORM's CARD OF 'geofencetop.TopFence'. -/
def topFenceUptoCard : Claim7 := { stood := { row := topFenceUptoRow, standIns := [], harness := (true, "12329a7c67709a93903b16e524d89279a6ca2fb2a180c5706bbb474e0d21eaee"), looks := false }, kinds := [], alts := [], laidByText := true, laidKinds := [.data, .data], laidTests := true, laidLooks := .later }
def TopFenceUptoCardSaid : Prop := Claim7.holds Tryz.pinned (.plain (OpenSpec.upto topFenceSpec)) topFenceUptoCard

/-- THE SECOND FORM's CARD OF 'geofencetop.TopBatch'. -/
def topBatchUptoCard : Claim7 := { stood := { row := topBatchUptoRow, standIns := [], harness := (true, "12329a7c67709a93903b16e524d89279a6ca2fb2a180c5706bbb474e0d21eaee"), looks := false }, kinds := [], alts := [], laidByText := true, laidKinds := [.data, .data], laidTests := true, laidLooks := .later }
def TopBatchUptoCardSaid : Prop := Claim7.holds Tryz.pinned (.plain (OpenSpec.upto topBatchSpec)) topBatchUptoCard

/-- THE SECOND FORM's CARD OF 'geofencetop.TopSmall'. -/
def topSmallUptoCard : Claim7 := { stood := { row := topSmallUptoRow, standIns := [], harness := (true, "12329a7c67709a93903b16e524d89279a6ca2fb2a180c5706bbb474e0d21eaee"), looks := false }, kinds := [], alts := [], laidByText := true, laidKinds := [.data, .data], laidTests := true, laidLooks := .later }
def TopSmallUptoCardSaid : Prop := Claim7.holds Tryz.pinned (.plain (OpenSpec.upto topSmallSpec)) topSmallUptoCard
end Rows
end Go.Proofs.YtjdiilkljgljkaaGreatDoor
