/-
  DERIVED. GIVEN WITH THE SEED: THE CARDS: each row of YtoikcgmdlccdbaaDoorRows.lean that lists a variable, with what it lists TIED to the program's text (the seventh form; the later family's looks); each row that meets fmt, with fmt's text TOLD by the authors' own Lean function (tested against real Go, not proved from fmt's source: count such statements apart). THE CARD IS WHAT COUNTS. Prove the row's statement (the work); the ties are given (YtoikcgmdlccdbaaDoorTie.lean); close each card by the builder's one call (the guide's Derived/Test/ToyasCard.lean, 'card_holds'). Laid BY PROGRAM, IN A SANDBOX (cutbox-door.mjs). By AI agents, Wed Nov 11 2026. No macro, syntax, notation, axiom, sorry.
-/
import Derived.Test.YtoikcgmdlccdbaaDoorRows
import GoSem.ClaimSeven
namespace Go.Proofs.YtoikcgmdlccdbaaDoor
namespace Rows

/-- THE TIED CARD OF 'geofencelaw08.SegmentWithin'. -/
def segmentWithinCard : Claim7 := { stood := { row := segmentWithinRow, standIns := [], harness := (true, "6aa1862698f20a55784156a59a891049580e3c847b84d76671fb8d5fde10ff1a"), looks := false }, kinds := [], alts := [], laidByText := true, laidKinds := [.data, .data], laidTests := true, laidLooks := .later }
def SegmentWithinCardSaid : Prop := Claim7.holds Tryd.pinned (.plain (OpenSpec.ofChange segmentWithinSpec)) segmentWithinCard

/-- THE TIED CARD OF 'geofencelaw08.SegmentContains'. -/
def segmentContainsCard : Claim7 := { stood := { row := segmentContainsRow, standIns := [], harness := (true, "6aa1862698f20a55784156a59a891049580e3c847b84d76671fb8d5fde10ff1a"), looks := false }, kinds := [], alts := [], laidByText := true, laidKinds := [.data, .data], laidTests := true, laidLooks := .later }
def SegmentContainsCardSaid : Prop := Claim7.holds Tryd.pinned (.plain (OpenSpec.ofChange segmentContainsSpec)) segmentContainsCard

/-- THE TIED CARD OF 'geofencelaw08.SegmentMeets'. -/
def segmentMeetsCard : Claim7 := { stood := { row := segmentMeetsRow, standIns := [], harness := (true, "6aa1862698f20a55784156a59a891049580e3c847b84d76671fb8d5fde10ff1a"), looks := false }, kinds := [], alts := [], laidByText := true, laidKinds := [.data, .data], laidTests := true, laidLooks := .later }
def SegmentMeetsCardSaid : Prop := Claim7.holds Tryd.pinned (.plain (OpenSpec.ofChange segmentMeetsSpec)) segmentMeetsCard

/-- THE TIED CARD OF 'geofencelaw08.SegmentSymmetries'. -/
def segmentSymmetriesCard : Claim7 := { stood := { row := segmentSymmetriesRow, standIns := [], harness := (true, "6aa1862698f20a55784156a59a891049580e3c847b84d76671fb8d5fde10ff1a"), looks := false }, kinds := [], alts := [], laidByText := true, laidKinds := [.data, .data], laidTests := true, laidLooks := .later }
def SegmentSymmetriesCardSaid : Prop := Claim7.holds Tryd.pinned (.plain (OpenSpec.ofChange segmentSymmetriesSpec)) segmentSymmetriesCard

/-- THE TIED CARD OF 'geofencelaw08.SegmentItself'. -/
def segmentItselfCard : Claim7 := { stood := { row := segmentItselfRow, standIns := [], harness := (true, "6aa1862698f20a55784156a59a891049580e3c847b84d76671fb8d5fde10ff1a"), looks := false }, kinds := [], alts := [], laidByText := true, laidKinds := [.data, .data], laidTests := true, laidLooks := .later }
def SegmentItselfCardSaid : Prop := Claim7.holds Tryd.pinned (.plain (OpenSpec.ofChange segmentItselfSpec)) segmentItselfCard

/-- THE TIED CARD OF 'geofencelaw08.SegmentImplications'. -/
def segmentImplicationsCard : Claim7 := { stood := { row := segmentImplicationsRow, standIns := [], harness := (true, "6aa1862698f20a55784156a59a891049580e3c847b84d76671fb8d5fde10ff1a"), looks := false }, kinds := [], alts := [], laidByText := true, laidKinds := [.data, .data], laidTests := true, laidLooks := .later }
def SegmentImplicationsCardSaid : Prop := Claim7.holds Tryd.pinned (.plain (OpenSpec.ofChange segmentImplicationsSpec)) segmentImplicationsCard

/-- THE TIED CARD OF 'geofencelaw15.DiscMatchesReference'. -/
def discMatchesReferenceCard : Claim7 := { stood := { row := discMatchesReferenceRow, standIns := [], harness := (true, "6aa1862698f20a55784156a59a891049580e3c847b84d76671fb8d5fde10ff1a"), looks := false }, kinds := [], alts := [], laidByText := true, laidKinds := [.data], laidTests := true, laidLooks := .later }
def DiscMatchesReferenceCardSaid : Prop := Claim7.holds Tryd.pinned (.plain (OpenSpec.ofChange discMatchesReferenceSpec)) discMatchesReferenceCard

/-- THE TIED CARD OF 'geofencelaw15.DiscOrder'. -/
def discOrderCard : Claim7 := { stood := { row := discOrderRow, standIns := [], harness := (true, "6aa1862698f20a55784156a59a891049580e3c847b84d76671fb8d5fde10ff1a"), looks := false }, kinds := [], alts := [], laidByText := true, laidKinds := [.data], laidTests := true, laidLooks := .later }
def DiscOrderCardSaid : Prop := Claim7.holds Tryd.pinned (.plain (OpenSpec.ofChange discOrderSpec)) discOrderCard

/-- THE TIED CARD OF 'geofencelaw15.DiscBoundary'. -/
def discBoundaryCard : Claim7 := { stood := { row := discBoundaryRow, standIns := [], harness := (true, "6aa1862698f20a55784156a59a891049580e3c847b84d76671fb8d5fde10ff1a"), looks := false }, kinds := [], alts := [], laidByText := true, laidKinds := [.data], laidTests := true, laidLooks := .later }
def DiscBoundaryCardSaid : Prop := Claim7.holds Tryd.pinned (.plain (OpenSpec.ofChange discBoundarySpec)) discBoundaryCard

/-- THE TIED CARD OF 'geofencelaw15.DiscMiddles'. -/
def discMiddlesCard : Claim7 := { stood := { row := discMiddlesRow, standIns := [], harness := (true, "6aa1862698f20a55784156a59a891049580e3c847b84d76671fb8d5fde10ff1a"), looks := false }, kinds := [], alts := [], laidByText := true, laidKinds := [.data], laidTests := true, laidLooks := .later }
def DiscMiddlesCardSaid : Prop := Claim7.holds Tryd.pinned (.plain (OpenSpec.ofChange discMiddlesSpec)) discMiddlesCard

/-- THE TIED CARD OF 'geofencelaw15.DiscRadius'. -/
def discRadiusCard : Claim7 := { stood := { row := discRadiusRow, standIns := [], harness := (true, "6aa1862698f20a55784156a59a891049580e3c847b84d76671fb8d5fde10ff1a"), looks := false }, kinds := [], alts := [], laidByText := true, laidKinds := [.data], laidTests := true, laidLooks := .later }
def DiscRadiusCardSaid : Prop := Claim7.holds Tryd.pinned (.plain (OpenSpec.ofChange discRadiusSpec)) discRadiusCard

/-- THE TIED CARD OF 'geofencelaw15.DiscEvents'. -/
def discEventsCard : Claim7 := { stood := { row := discEventsRow, standIns := [], harness := (true, "6aa1862698f20a55784156a59a891049580e3c847b84d76671fb8d5fde10ff1a"), looks := false }, kinds := [], alts := [], laidByText := true, laidKinds := [.data], laidTests := true, laidLooks := .later }
def DiscEventsCardSaid : Prop := Claim7.holds Tryd.pinned (.plain (OpenSpec.ofChange discEventsSpec)) discEventsCard

/-- THE TIED CARD OF 'geofencelaw14.PolygonValid'. -/
def polygonValidCard : Claim7 := { stood := { row := polygonValidRow, standIns := [], harness := (true, "6aa1862698f20a55784156a59a891049580e3c847b84d76671fb8d5fde10ff1a"), looks := false }, kinds := [], alts := [], laidByText := true, laidKinds := [.data], laidTests := true, laidLooks := .later }
def PolygonValidCardSaid : Prop := Claim7.holds Tryd.pinned (.plain (OpenSpec.ofChange polygonValidSpec)) polygonValidCard

/-- THE TIED CARD OF 'geofencelaw14.PolygonLocates'. -/
def polygonLocatesCard : Claim7 := { stood := { row := polygonLocatesRow, standIns := [], harness := (true, "6aa1862698f20a55784156a59a891049580e3c847b84d76671fb8d5fde10ff1a"), looks := false }, kinds := [], alts := [], laidByText := true, laidKinds := [.data], laidTests := true, laidLooks := .later }
def PolygonLocatesCardSaid : Prop := Claim7.holds Tryd.pinned (.plain (OpenSpec.ofChange polygonLocatesSpec)) polygonLocatesCard

/-- THE TIED CARD OF 'geofencelaw14.PolygonVertices'. -/
def polygonVerticesCard : Claim7 := { stood := { row := polygonVerticesRow, standIns := [], harness := (true, "6aa1862698f20a55784156a59a891049580e3c847b84d76671fb8d5fde10ff1a"), looks := false }, kinds := [], alts := [], laidByText := true, laidKinds := [.data], laidTests := true, laidLooks := .later }
def PolygonVerticesCardSaid : Prop := Claim7.holds Tryd.pinned (.plain (OpenSpec.ofChange polygonVerticesSpec)) polygonVerticesCard

/-- THE TIED CARD OF 'geofencelaw14.PolygonMiddles'. -/
def polygonMiddlesCard : Claim7 := { stood := { row := polygonMiddlesRow, standIns := [], harness := (true, "6aa1862698f20a55784156a59a891049580e3c847b84d76671fb8d5fde10ff1a"), looks := false }, kinds := [], alts := [], laidByText := true, laidKinds := [.data], laidTests := true, laidLooks := .later }
def PolygonMiddlesCardSaid : Prop := Claim7.holds Tryd.pinned (.plain (OpenSpec.ofChange polygonMiddlesSpec)) polygonMiddlesCard

/-- THE TIED CARD OF 'geofencelaw14.PolygonEvents'. -/
def polygonEventsCard : Claim7 := { stood := { row := polygonEventsRow, standIns := [], harness := (true, "6aa1862698f20a55784156a59a891049580e3c847b84d76671fb8d5fde10ff1a"), looks := false }, kinds := [], alts := [], laidByText := true, laidKinds := [.data], laidTests := true, laidLooks := .later }
def PolygonEventsCardSaid : Prop := Claim7.holds Tryd.pinned (.plain (OpenSpec.ofChange polygonEventsSpec)) polygonEventsCard

/-- THE TIED CARD OF 'geofencelaw14.PolygonRotates'. -/
def polygonRotatesCard : Claim7 := { stood := { row := polygonRotatesRow, standIns := [], harness := (true, "6aa1862698f20a55784156a59a891049580e3c847b84d76671fb8d5fde10ff1a"), looks := false }, kinds := [], alts := [], laidByText := true, laidKinds := [.data], laidTests := true, laidLooks := .later }
def PolygonRotatesCardSaid : Prop := Claim7.holds Tryd.pinned (.plain (OpenSpec.ofChange polygonRotatesSpec)) polygonRotatesCard

/-- THE SECOND FORM's CARD OF 'geofencelaw08.SegmentWithin'. -/
def segmentWithinUptoCard : Claim7 := { stood := { row := segmentWithinUptoRow, standIns := [], harness := (true, "6aa1862698f20a55784156a59a891049580e3c847b84d76671fb8d5fde10ff1a"), looks := false }, kinds := [], alts := [], laidByText := true, laidKinds := [.data, .data], laidTests := true, laidLooks := .later }
def SegmentWithinUptoCardSaid : Prop := Claim7.holds Tryd.pinned (.plain (OpenSpec.upto segmentWithinSpec)) segmentWithinUptoCard

/-- THE SECOND FORM's CARD OF 'geofencelaw08.SegmentContains'. -/
def segmentContainsUptoCard : Claim7 := { stood := { row := segmentContainsUptoRow, standIns := [], harness := (true, "6aa1862698f20a55784156a59a891049580e3c847b84d76671fb8d5fde10ff1a"), looks := false }, kinds := [], alts := [], laidByText := true, laidKinds := [.data, .data], laidTests := true, laidLooks := .later }
def SegmentContainsUptoCardSaid : Prop := Claim7.holds Tryd.pinned (.plain (OpenSpec.upto segmentContainsSpec)) segmentContainsUptoCard

/-- THE SECOND FORM's CARD OF 'geofencelaw08.SegmentMeets'. -/
def segmentMeetsUptoCard : Claim7 := { stood := { row := segmentMeetsUptoRow, standIns := [], harness := (true, "6aa1862698f20a55784156a59a891049580e3c847b84d76671fb8d5fde10ff1a"), looks := false }, kinds := [], alts := [], laidByText := true, laidKinds := [.data, .data], laidTests := true, laidLooks := .later }
def SegmentMeetsUptoCardSaid : Prop := Claim7.holds Tryd.pinned (.plain (OpenSpec.upto segmentMeetsSpec)) segmentMeetsUptoCard

/-- THE SECOND FORM's CARD OF 'geofencelaw08.SegmentSymmetries'. -/
def segmentSymmetriesUptoCard : Claim7 := { stood := { row := segmentSymmetriesUptoRow, standIns := [], harness := (true, "6aa1862698f20a55784156a59a891049580e3c847b84d76671fb8d5fde10ff1a"), looks := false }, kinds := [], alts := [], laidByText := true, laidKinds := [.data, .data], laidTests := true, laidLooks := .later }
def SegmentSymmetriesUptoCardSaid : Prop := Claim7.holds Tryd.pinned (.plain (OpenSpec.upto segmentSymmetriesSpec)) segmentSymmetriesUptoCard

/-- THE SECOND FORM's CARD OF 'geofencelaw08.SegmentItself'. -/
def segmentItselfUptoCard : Claim7 := { stood := { row := segmentItselfUptoRow, standIns := [], harness := (true, "6aa1862698f20a55784156a59a891049580e3c847b84d76671fb8d5fde10ff1a"), looks := false }, kinds := [], alts := [], laidByText := true, laidKinds := [.data, .data], laidTests := true, laidLooks := .later }
def SegmentItselfUptoCardSaid : Prop := Claim7.holds Tryd.pinned (.plain (OpenSpec.upto segmentItselfSpec)) segmentItselfUptoCard

/-- THE SECOND FORM's CARD OF 'geofencelaw08.SegmentImplications'. -/
def segmentImplicationsUptoCard : Claim7 := { stood := { row := segmentImplicationsUptoRow, standIns := [], harness := (true, "6aa1862698f20a55784156a59a891049580e3c847b84d76671fb8d5fde10ff1a"), looks := false }, kinds := [], alts := [], laidByText := true, laidKinds := [.data, .data], laidTests := true, laidLooks := .later }
def SegmentImplicationsUptoCardSaid : Prop := Claim7.holds Tryd.pinned (.plain (OpenSpec.upto segmentImplicationsSpec)) segmentImplicationsUptoCard

/-- THE SECOND FORM's CARD OF 'geofencelaw15.DiscMatchesReference'. -/
def discMatchesReferenceUptoCard : Claim7 := { stood := { row := discMatchesReferenceUptoRow, standIns := [], harness := (true, "6aa1862698f20a55784156a59a891049580e3c847b84d76671fb8d5fde10ff1a"), looks := false }, kinds := [], alts := [], laidByText := true, laidKinds := [.data], laidTests := true, laidLooks := .later }
def DiscMatchesReferenceUptoCardSaid : Prop := Claim7.holds Tryd.pinned (.plain (OpenSpec.upto discMatchesReferenceSpec)) discMatchesReferenceUptoCard

/-- THE SECOND FORM's CARD OF 'geofencelaw15.DiscOrder'. -/
def discOrderUptoCard : Claim7 := { stood := { row := discOrderUptoRow, standIns := [], harness := (true, "6aa1862698f20a55784156a59a891049580e3c847b84d76671fb8d5fde10ff1a"), looks := false }, kinds := [], alts := [], laidByText := true, laidKinds := [.data], laidTests := true, laidLooks := .later }
def DiscOrderUptoCardSaid : Prop := Claim7.holds Tryd.pinned (.plain (OpenSpec.upto discOrderSpec)) discOrderUptoCard

/-- THE SECOND FORM's CARD OF 'geofencelaw15.DiscBoundary'. -/
def discBoundaryUptoCard : Claim7 := { stood := { row := discBoundaryUptoRow, standIns := [], harness := (true, "6aa1862698f20a55784156a59a891049580e3c847b84d76671fb8d5fde10ff1a"), looks := false }, kinds := [], alts := [], laidByText := true, laidKinds := [.data], laidTests := true, laidLooks := .later }
def DiscBoundaryUptoCardSaid : Prop := Claim7.holds Tryd.pinned (.plain (OpenSpec.upto discBoundarySpec)) discBoundaryUptoCard

/-- THE SECOND FORM's CARD OF 'geofencelaw15.DiscMiddles'. -/
def discMiddlesUptoCard : Claim7 := { stood := { row := discMiddlesUptoRow, standIns := [], harness := (true, "6aa1862698f20a55784156a59a891049580e3c847b84d76671fb8d5fde10ff1a"), looks := false }, kinds := [], alts := [], laidByText := true, laidKinds := [.data], laidTests := true, laidLooks := .later }
def DiscMiddlesUptoCardSaid : Prop := Claim7.holds Tryd.pinned (.plain (OpenSpec.upto discMiddlesSpec)) discMiddlesUptoCard

/-- THE SECOND FORM's CARD OF 'geofencelaw15.DiscRadius'. -/
def discRadiusUptoCard : Claim7 := { stood := { row := discRadiusUptoRow, standIns := [], harness := (true, "6aa1862698f20a55784156a59a891049580e3c847b84d76671fb8d5fde10ff1a"), looks := false }, kinds := [], alts := [], laidByText := true, laidKinds := [.data], laidTests := true, laidLooks := .later }
def DiscRadiusUptoCardSaid : Prop := Claim7.holds Tryd.pinned (.plain (OpenSpec.upto discRadiusSpec)) discRadiusUptoCard

/-- THE SECOND FORM's CARD OF 'geofencelaw15.DiscEvents'. -/
def discEventsUptoCard : Claim7 := { stood := { row := discEventsUptoRow, standIns := [], harness := (true, "6aa1862698f20a55784156a59a891049580e3c847b84d76671fb8d5fde10ff1a"), looks := false }, kinds := [], alts := [], laidByText := true, laidKinds := [.data], laidTests := true, laidLooks := .later }
def DiscEventsUptoCardSaid : Prop := Claim7.holds Tryd.pinned (.plain (OpenSpec.upto discEventsSpec)) discEventsUptoCard

/-- THE SECOND FORM's CARD OF 'geofencelaw14.PolygonValid'. -/
def polygonValidUptoCard : Claim7 := { stood := { row := polygonValidUptoRow, standIns := [], harness := (true, "6aa1862698f20a55784156a59a891049580e3c847b84d76671fb8d5fde10ff1a"), looks := false }, kinds := [], alts := [], laidByText := true, laidKinds := [.data], laidTests := true, laidLooks := .later }
def PolygonValidUptoCardSaid : Prop := Claim7.holds Tryd.pinned (.plain (OpenSpec.upto polygonValidSpec)) polygonValidUptoCard

/-- THE SECOND FORM's CARD OF 'geofencelaw14.PolygonLocates'. -/
def polygonLocatesUptoCard : Claim7 := { stood := { row := polygonLocatesUptoRow, standIns := [], harness := (true, "6aa1862698f20a55784156a59a891049580e3c847b84d76671fb8d5fde10ff1a"), looks := false }, kinds := [], alts := [], laidByText := true, laidKinds := [.data], laidTests := true, laidLooks := .later }
def PolygonLocatesUptoCardSaid : Prop := Claim7.holds Tryd.pinned (.plain (OpenSpec.upto polygonLocatesSpec)) polygonLocatesUptoCard

/-- THE SECOND FORM's CARD OF 'geofencelaw14.PolygonVertices'. -/
def polygonVerticesUptoCard : Claim7 := { stood := { row := polygonVerticesUptoRow, standIns := [], harness := (true, "6aa1862698f20a55784156a59a891049580e3c847b84d76671fb8d5fde10ff1a"), looks := false }, kinds := [], alts := [], laidByText := true, laidKinds := [.data], laidTests := true, laidLooks := .later }
def PolygonVerticesUptoCardSaid : Prop := Claim7.holds Tryd.pinned (.plain (OpenSpec.upto polygonVerticesSpec)) polygonVerticesUptoCard

/-- THE SECOND FORM's CARD OF 'geofencelaw14.PolygonMiddles'. -/
def polygonMiddlesUptoCard : Claim7 := { stood := { row := polygonMiddlesUptoRow, standIns := [], harness := (true, "6aa1862698f20a55784156a59a891049580e3c847b84d76671fb8d5fde10ff1a"), looks := false }, kinds := [], alts := [], laidByText := true, laidKinds := [.data], laidTests := true, laidLooks := .later }
def PolygonMiddlesUptoCardSaid : Prop := Claim7.holds Tryd.pinned (.plain (OpenSpec.upto polygonMiddlesSpec)) polygonMiddlesUptoCard

/-- THE SECOND FORM's CARD OF 'geofencelaw14.PolygonEvents'. -/
def polygonEventsUptoCard : Claim7 := { stood := { row := polygonEventsUptoRow, standIns := [], harness := (true, "6aa1862698f20a55784156a59a891049580e3c847b84d76671fb8d5fde10ff1a"), looks := false }, kinds := [], alts := [], laidByText := true, laidKinds := [.data], laidTests := true, laidLooks := .later }
def PolygonEventsUptoCardSaid : Prop := Claim7.holds Tryd.pinned (.plain (OpenSpec.upto polygonEventsSpec)) polygonEventsUptoCard

/-- THE SECOND FORM's CARD OF 'geofencelaw14.PolygonRotates'. -/
def polygonRotatesUptoCard : Claim7 := { stood := { row := polygonRotatesUptoRow, standIns := [], harness := (true, "6aa1862698f20a55784156a59a891049580e3c847b84d76671fb8d5fde10ff1a"), looks := false }, kinds := [], alts := [], laidByText := true, laidKinds := [.data], laidTests := true, laidLooks := .later }
def PolygonRotatesUptoCardSaid : Prop := Claim7.holds Tryd.pinned (.plain (OpenSpec.upto polygonRotatesSpec)) polygonRotatesUptoCard
end Rows
end Go.Proofs.YtoikcgmdlccdbaaDoor
