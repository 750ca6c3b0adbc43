/-
  NARROWER THAN 'FOR EVERY INPUT', by the rows' own cells (each row's printed sentence says how): SegmentWithin: laid · SegmentContains: laid · SegmentMeets: laid · SegmentSymmetries: laid · SegmentItself: laid · SegmentImplications: laid · DiscMatchesReference: laid · DiscOrder: laid · DiscBoundary: laid · DiscMiddles: laid · DiscRadius: laid · DiscEvents: laid · PolygonValid: laid · PolygonLocates: laid · PolygonVertices: laid · PolygonMiddles: laid · PolygonEvents: laid · PolygonRotates: laid.
  DERIVED. THE GIVEN ROWS OF THIS SEAT. 18 by the template 'for every input the law returns true; each argument reads behind the call as it read before'; 0 by the template 'total and deterministic' (their statements: YtoikcgmdlccdbaaDoorTotals.lean).
  GIVEN WITH THE SEED: the statements are not yours to turn. If you find one false, say at which input.
  Laid BY PROGRAM, IN A SANDBOX (cutbox-rows.mjs): the forced cells as the released guide's own fill.sh prints them over the translation f1a797e9169fd12f… (all of the seat's roots in one cut). By AI agents, Wed Nov 11 2026. No macro, syntax, notation, axiom, sorry.
-/
import Derived.Test.YtoikcgmdlccdbaaDoorChecked
import GoSem.Claim
import GoSem.ClaimJoined
import GoSem.ClaimMapViews
import Derived.JoinedTies
import Derived.KernelRfl
namespace Go.Proofs.YtoikcgmdlccdbaaDoor
/- THE CELL 'sum', in the pinned program and in every row, IS THE sha256 OF THE DUMP (.gsa) THAT YtoikcgmdlccdbaaDoorProg.lean LOADS. Nothing in Lean hashes anything: it is a label: what it is worth is what the hold of that sum in a sandbox is worth. -/
noncomputable def Tryd.pinned : Pinned := { name := "ytoikcgmdlccdbaadoor", sum := "f1a797e9169fd12f9245acf37e702e510b7160fd9f053b9890d9e9a7731aaee5", checked := Tryd.checked }
namespace Rows
def none {H : Type} : Left H := { results := [], args := [] }

/- WHAT THE LISTED PACKAGE-LEVEL VARIABLES READ AS WHEN THE CALL BEGINS. Each datum BY PROGRAM (the guide's laid-datum.mjs) off the statement by which the dump's own 'gosem.cut.vars' lays the variable. In a bare row this is a premise. The card (YtoikcgmdlccdbaaDoorCards.lean) ties it to the program's text. -/
def laid_geofence_mask_words {H : Type} : DataW H := .agg [.lit (.int .u64 9223372036854775808), .lit (.int .u64 18446744073709551615)]
def laid_geofence_orient_wanted {H : Type} : DataW H := .agg [.lit (.int .u64 0), .lit (.int .u64 1)]

/-- 'geofencelaw08.SegmentWithin': WHATEVER THE INPUT: true; the input reads as it did. -/
def segmentWithinSpec : ChangeSpec := { name := "segmentWithin", fn := fun _ => fun
  | [d1, d2, d3] => { results := [.lit (.bool true)], args := [d1, d2, d3] }
  | _ => none }
def segmentWithinRow : OpenClaim := { program := "ytoikcgmdlccdbaadoor", sum := "f1a797e9169fd12f9245acf37e702e510b7160fd9f053b9890d9e9a7731aaee5", func := "geofence/geofencelaw08.SegmentWithin", spec := "segmentWithin", inPlace := ["math/bits.Sub64", "math/bits.Add64"], unfollowed := true, recurses := true, named := ["geofence/orient.wanted", "geofence/mask.words"], apart := false, laid := [("geofence/mask.words", laid_geofence_mask_words), ("geofence/orient.wanted", laid_geofence_orient_wanted)] }
def SegmentWithinSaid : Prop := segmentWithinRow.holds Tryd.pinned (OpenSpec.ofChange segmentWithinSpec)

/-- ITS FALSE NEIGHBOUR: 'it returns false'. Refute it at one input. -/
def segmentWithinWrong : ChangeSpec := { name := "segmentWithin", fn := fun _ => fun
  | [d1, d2, d3] => { results := [.lit (.bool false)], args := [d1, d2, d3] }
  | _ => none }
def SegmentWithinWrongFalsely : Prop := segmentWithinRow.holds Tryd.pinned (OpenSpec.ofChange segmentWithinWrong)

/-- 'geofencelaw08.SegmentContains': WHATEVER THE INPUT: true; the input reads as it did. -/
def segmentContainsSpec : ChangeSpec := { name := "segmentContains", fn := fun _ => fun
  | [d1, d2, d3] => { results := [.lit (.bool true)], args := [d1, d2, d3] }
  | _ => none }
def segmentContainsRow : OpenClaim := { program := "ytoikcgmdlccdbaadoor", sum := "f1a797e9169fd12f9245acf37e702e510b7160fd9f053b9890d9e9a7731aaee5", func := "geofence/geofencelaw08.SegmentContains", spec := "segmentContains", inPlace := ["math/bits.Sub64", "math/bits.Add64"], unfollowed := true, recurses := true, named := ["geofence/orient.wanted", "geofence/mask.words"], apart := false, laid := [("geofence/mask.words", laid_geofence_mask_words), ("geofence/orient.wanted", laid_geofence_orient_wanted)] }
def SegmentContainsSaid : Prop := segmentContainsRow.holds Tryd.pinned (OpenSpec.ofChange segmentContainsSpec)

/-- ITS FALSE NEIGHBOUR: 'it returns false'. Refute it at one input. -/
def segmentContainsWrong : ChangeSpec := { name := "segmentContains", fn := fun _ => fun
  | [d1, d2, d3] => { results := [.lit (.bool false)], args := [d1, d2, d3] }
  | _ => none }
def SegmentContainsWrongFalsely : Prop := segmentContainsRow.holds Tryd.pinned (OpenSpec.ofChange segmentContainsWrong)

/-- 'geofencelaw08.SegmentMeets': WHATEVER THE INPUT: true; the input reads as it did. -/
def segmentMeetsSpec : ChangeSpec := { name := "segmentMeets", fn := fun _ => fun
  | [d] => { results := [.lit (.bool true)], args := [d] }
  | _ => none }
def segmentMeetsRow : OpenClaim := { program := "ytoikcgmdlccdbaadoor", sum := "f1a797e9169fd12f9245acf37e702e510b7160fd9f053b9890d9e9a7731aaee5", func := "geofence/geofencelaw08.SegmentMeets", spec := "segmentMeets", inPlace := ["math/bits.Sub64", "math/bits.Add64"], unfollowed := true, recurses := true, named := ["geofence/orient.wanted", "geofence/mask.words"], apart := false, laid := [("geofence/mask.words", laid_geofence_mask_words), ("geofence/orient.wanted", laid_geofence_orient_wanted)] }
def SegmentMeetsSaid : Prop := segmentMeetsRow.holds Tryd.pinned (OpenSpec.ofChange segmentMeetsSpec)

/-- ITS FALSE NEIGHBOUR: 'it returns false'. Refute it at one input. -/
def segmentMeetsWrong : ChangeSpec := { name := "segmentMeets", fn := fun _ => fun
  | [d] => { results := [.lit (.bool false)], args := [d] }
  | _ => none }
def SegmentMeetsWrongFalsely : Prop := segmentMeetsRow.holds Tryd.pinned (OpenSpec.ofChange segmentMeetsWrong)

/-- 'geofencelaw08.SegmentSymmetries': WHATEVER THE INPUT: true; the input reads as it did. -/
def segmentSymmetriesSpec : ChangeSpec := { name := "segmentSymmetries", fn := fun _ => fun
  | [d] => { results := [.lit (.bool true)], args := [d] }
  | _ => none }
def segmentSymmetriesRow : OpenClaim := { program := "ytoikcgmdlccdbaadoor", sum := "f1a797e9169fd12f9245acf37e702e510b7160fd9f053b9890d9e9a7731aaee5", func := "geofence/geofencelaw08.SegmentSymmetries", spec := "segmentSymmetries", inPlace := ["math/bits.Sub64", "math/bits.Add64"], unfollowed := true, recurses := true, named := ["geofence/mask.words", "geofence/orient.wanted"], apart := false, laid := [("geofence/mask.words", laid_geofence_mask_words), ("geofence/orient.wanted", laid_geofence_orient_wanted)] }
def SegmentSymmetriesSaid : Prop := segmentSymmetriesRow.holds Tryd.pinned (OpenSpec.ofChange segmentSymmetriesSpec)

/-- ITS FALSE NEIGHBOUR: 'it returns false'. Refute it at one input. -/
def segmentSymmetriesWrong : ChangeSpec := { name := "segmentSymmetries", fn := fun _ => fun
  | [d] => { results := [.lit (.bool false)], args := [d] }
  | _ => none }
def SegmentSymmetriesWrongFalsely : Prop := segmentSymmetriesRow.holds Tryd.pinned (OpenSpec.ofChange segmentSymmetriesWrong)

/-- 'geofencelaw08.SegmentItself': WHATEVER THE INPUT: true; the input reads as it did. -/
def segmentItselfSpec : ChangeSpec := { name := "segmentItself", fn := fun _ => fun
  | [d1, d2, d3] => { results := [.lit (.bool true)], args := [d1, d2, d3] }
  | _ => none }
def segmentItselfRow : OpenClaim := { program := "ytoikcgmdlccdbaadoor", sum := "f1a797e9169fd12f9245acf37e702e510b7160fd9f053b9890d9e9a7731aaee5", func := "geofence/geofencelaw08.SegmentItself", spec := "segmentItself", inPlace := ["math/bits.Sub64", "math/bits.Add64"], unfollowed := true, recurses := true, named := ["geofence/orient.wanted", "geofence/mask.words"], apart := false, laid := [("geofence/mask.words", laid_geofence_mask_words), ("geofence/orient.wanted", laid_geofence_orient_wanted)] }
def SegmentItselfSaid : Prop := segmentItselfRow.holds Tryd.pinned (OpenSpec.ofChange segmentItselfSpec)

/-- ITS FALSE NEIGHBOUR: 'it returns false'. Refute it at one input. -/
def segmentItselfWrong : ChangeSpec := { name := "segmentItself", fn := fun _ => fun
  | [d1, d2, d3] => { results := [.lit (.bool false)], args := [d1, d2, d3] }
  | _ => none }
def SegmentItselfWrongFalsely : Prop := segmentItselfRow.holds Tryd.pinned (OpenSpec.ofChange segmentItselfWrong)

/-- 'geofencelaw08.SegmentImplications': WHATEVER THE INPUT: true; the input reads as it did. -/
def segmentImplicationsSpec : ChangeSpec := { name := "segmentImplications", fn := fun _ => fun
  | [d] => { results := [.lit (.bool true)], args := [d] }
  | _ => none }
def segmentImplicationsRow : OpenClaim := { program := "ytoikcgmdlccdbaadoor", sum := "f1a797e9169fd12f9245acf37e702e510b7160fd9f053b9890d9e9a7731aaee5", func := "geofence/geofencelaw08.SegmentImplications", spec := "segmentImplications", inPlace := ["math/bits.Sub64", "math/bits.Add64"], unfollowed := true, recurses := true, named := ["geofence/mask.words", "geofence/orient.wanted"], apart := false, laid := [("geofence/mask.words", laid_geofence_mask_words), ("geofence/orient.wanted", laid_geofence_orient_wanted)] }
def SegmentImplicationsSaid : Prop := segmentImplicationsRow.holds Tryd.pinned (OpenSpec.ofChange segmentImplicationsSpec)

/-- ITS FALSE NEIGHBOUR: 'it returns false'. Refute it at one input. -/
def segmentImplicationsWrong : ChangeSpec := { name := "segmentImplications", fn := fun _ => fun
  | [d] => { results := [.lit (.bool false)], args := [d] }
  | _ => none }
def SegmentImplicationsWrongFalsely : Prop := segmentImplicationsRow.holds Tryd.pinned (OpenSpec.ofChange segmentImplicationsWrong)

/-- 'geofencelaw15.DiscMatchesReference': WHATEVER THE INPUT: true; the input reads as it did. -/
def discMatchesReferenceSpec : ChangeSpec := { name := "discMatchesReference", fn := fun _ => fun
  | [d1, d2] => { results := [.lit (.bool true)], args := [d1, d2] }
  | _ => none }
def discMatchesReferenceRow : OpenClaim := { program := "ytoikcgmdlccdbaadoor", sum := "f1a797e9169fd12f9245acf37e702e510b7160fd9f053b9890d9e9a7731aaee5", func := "geofence/geofencelaw15.DiscMatchesReference", spec := "discMatchesReference", inPlace := ["math/bits.Sub64", "math/bits.Add64"], unfollowed := true, recurses := true, named := ["geofence/mask.words"], apart := false, laid := [("geofence/mask.words", laid_geofence_mask_words)] }
def DiscMatchesReferenceSaid : Prop := discMatchesReferenceRow.holds Tryd.pinned (OpenSpec.ofChange discMatchesReferenceSpec)

/-- ITS FALSE NEIGHBOUR: 'it returns false'. Refute it at one input. -/
def discMatchesReferenceWrong : ChangeSpec := { name := "discMatchesReference", fn := fun _ => fun
  | [d1, d2] => { results := [.lit (.bool false)], args := [d1, d2] }
  | _ => none }
def DiscMatchesReferenceWrongFalsely : Prop := discMatchesReferenceRow.holds Tryd.pinned (OpenSpec.ofChange discMatchesReferenceWrong)

/-- 'geofencelaw15.DiscOrder': WHATEVER THE INPUT: true; the input reads as it did. -/
def discOrderSpec : ChangeSpec := { name := "discOrder", fn := fun _ => fun
  | [d1, d2] => { results := [.lit (.bool true)], args := [d1, d2] }
  | _ => none }
def discOrderRow : OpenClaim := { program := "ytoikcgmdlccdbaadoor", sum := "f1a797e9169fd12f9245acf37e702e510b7160fd9f053b9890d9e9a7731aaee5", func := "geofence/geofencelaw15.DiscOrder", spec := "discOrder", inPlace := ["math/bits.Sub64", "math/bits.Add64"], unfollowed := true, recurses := true, named := ["geofence/mask.words"], apart := false, laid := [("geofence/mask.words", laid_geofence_mask_words)] }
def DiscOrderSaid : Prop := discOrderRow.holds Tryd.pinned (OpenSpec.ofChange discOrderSpec)

/-- ITS FALSE NEIGHBOUR: 'it returns false'. Refute it at one input. -/
def discOrderWrong : ChangeSpec := { name := "discOrder", fn := fun _ => fun
  | [d1, d2] => { results := [.lit (.bool false)], args := [d1, d2] }
  | _ => none }
def DiscOrderWrongFalsely : Prop := discOrderRow.holds Tryd.pinned (OpenSpec.ofChange discOrderWrong)

/-- 'geofencelaw15.DiscBoundary': WHATEVER THE INPUT: true; the input reads as it did. -/
def discBoundarySpec : ChangeSpec := { name := "discBoundary", fn := fun _ => fun
  | [d1, d2] => { results := [.lit (.bool true)], args := [d1, d2] }
  | _ => none }
def discBoundaryRow : OpenClaim := { program := "ytoikcgmdlccdbaadoor", sum := "f1a797e9169fd12f9245acf37e702e510b7160fd9f053b9890d9e9a7731aaee5", func := "geofence/geofencelaw15.DiscBoundary", spec := "discBoundary", inPlace := ["math/bits.Sub64", "math/bits.Add64"], unfollowed := true, recurses := true, named := ["geofence/mask.words"], apart := false, laid := [("geofence/mask.words", laid_geofence_mask_words)] }
def DiscBoundarySaid : Prop := discBoundaryRow.holds Tryd.pinned (OpenSpec.ofChange discBoundarySpec)

/-- ITS FALSE NEIGHBOUR: 'it returns false'. Refute it at one input. -/
def discBoundaryWrong : ChangeSpec := { name := "discBoundary", fn := fun _ => fun
  | [d1, d2] => { results := [.lit (.bool false)], args := [d1, d2] }
  | _ => none }
def DiscBoundaryWrongFalsely : Prop := discBoundaryRow.holds Tryd.pinned (OpenSpec.ofChange discBoundaryWrong)

/-- 'geofencelaw15.DiscMiddles': WHATEVER THE INPUT: true; the input reads as it did. -/
def discMiddlesSpec : ChangeSpec := { name := "discMiddles", fn := fun _ => fun
  | [d] => { results := [.lit (.bool true)], args := [d] }
  | _ => none }
def discMiddlesRow : OpenClaim := { program := "ytoikcgmdlccdbaadoor", sum := "f1a797e9169fd12f9245acf37e702e510b7160fd9f053b9890d9e9a7731aaee5", func := "geofence/geofencelaw15.DiscMiddles", spec := "discMiddles", inPlace := ["math/bits.Sub64", "math/bits.Add64"], unfollowed := true, recurses := true, named := ["geofence/mask.words"], apart := false, laid := [("geofence/mask.words", laid_geofence_mask_words)] }
def DiscMiddlesSaid : Prop := discMiddlesRow.holds Tryd.pinned (OpenSpec.ofChange discMiddlesSpec)

/-- ITS FALSE NEIGHBOUR: 'it returns false'. Refute it at one input. -/
def discMiddlesWrong : ChangeSpec := { name := "discMiddles", fn := fun _ => fun
  | [d] => { results := [.lit (.bool false)], args := [d] }
  | _ => none }
def DiscMiddlesWrongFalsely : Prop := discMiddlesRow.holds Tryd.pinned (OpenSpec.ofChange discMiddlesWrong)

/-- 'geofencelaw15.DiscRadius': WHATEVER THE INPUT: true; the input reads as it did. -/
def discRadiusSpec : ChangeSpec := { name := "discRadius", fn := fun _ => fun
  | [d1, d2, d3] => { results := [.lit (.bool true)], args := [d1, d2, d3] }
  | _ => none }
def discRadiusRow : OpenClaim := { program := "ytoikcgmdlccdbaadoor", sum := "f1a797e9169fd12f9245acf37e702e510b7160fd9f053b9890d9e9a7731aaee5", func := "geofence/geofencelaw15.DiscRadius", spec := "discRadius", inPlace := ["math/bits.Sub64", "math/bits.Add64"], unfollowed := true, recurses := true, named := ["geofence/mask.words"], apart := false, laid := [("geofence/mask.words", laid_geofence_mask_words)] }
def DiscRadiusSaid : Prop := discRadiusRow.holds Tryd.pinned (OpenSpec.ofChange discRadiusSpec)

/-- ITS FALSE NEIGHBOUR: 'it returns false'. Refute it at one input. -/
def discRadiusWrong : ChangeSpec := { name := "discRadius", fn := fun _ => fun
  | [d1, d2, d3] => { results := [.lit (.bool false)], args := [d1, d2, d3] }
  | _ => none }
def DiscRadiusWrongFalsely : Prop := discRadiusRow.holds Tryd.pinned (OpenSpec.ofChange discRadiusWrong)

/-- 'geofencelaw15.DiscEvents': WHATEVER THE INPUT: true; the input reads as it did. -/
def discEventsSpec : ChangeSpec := { name := "discEvents", fn := fun _ => fun
  | [d1, d2] => { results := [.lit (.bool true)], args := [d1, d2] }
  | _ => none }
def discEventsRow : OpenClaim := { program := "ytoikcgmdlccdbaadoor", sum := "f1a797e9169fd12f9245acf37e702e510b7160fd9f053b9890d9e9a7731aaee5", func := "geofence/geofencelaw15.DiscEvents", spec := "discEvents", inPlace := ["math/bits.Sub64", "math/bits.Add64"], unfollowed := true, recurses := true, named := ["geofence/mask.words"], apart := false, laid := [("geofence/mask.words", laid_geofence_mask_words)] }
def DiscEventsSaid : Prop := discEventsRow.holds Tryd.pinned (OpenSpec.ofChange discEventsSpec)

/-- ITS FALSE NEIGHBOUR: 'it returns false'. Refute it at one input. -/
def discEventsWrong : ChangeSpec := { name := "discEvents", fn := fun _ => fun
  | [d1, d2] => { results := [.lit (.bool false)], args := [d1, d2] }
  | _ => none }
def DiscEventsWrongFalsely : Prop := discEventsRow.holds Tryd.pinned (OpenSpec.ofChange discEventsWrong)

/-- 'geofencelaw14.PolygonValid': WHATEVER THE INPUT: true; the input reads as it did. -/
def polygonValidSpec : ChangeSpec := { name := "polygonValid", fn := fun _ => fun
  | [d] => { results := [.lit (.bool true)], args := [d] }
  | _ => none }
def polygonValidRow : OpenClaim := { program := "ytoikcgmdlccdbaadoor", sum := "f1a797e9169fd12f9245acf37e702e510b7160fd9f053b9890d9e9a7731aaee5", func := "geofence/geofencelaw14.PolygonValid", spec := "polygonValid", inPlace := ["slices.overlaps[geofence/api.Point]", "math/bits.Sub64", "math/bits.Add64"], unfollowed := true, recurses := true, named := ["geofence/mask.words"], apart := false, laid := [("geofence/mask.words", laid_geofence_mask_words)] }
def PolygonValidSaid : Prop := polygonValidRow.holds Tryd.pinned (OpenSpec.ofChange polygonValidSpec)

/-- ITS FALSE NEIGHBOUR: 'it returns false'. Refute it at one input. -/
def polygonValidWrong : ChangeSpec := { name := "polygonValid", fn := fun _ => fun
  | [d] => { results := [.lit (.bool false)], args := [d] }
  | _ => none }
def PolygonValidWrongFalsely : Prop := polygonValidRow.holds Tryd.pinned (OpenSpec.ofChange polygonValidWrong)

/-- 'geofencelaw14.PolygonLocates': WHATEVER THE INPUT: true; the input reads as it did. -/
def polygonLocatesSpec : ChangeSpec := { name := "polygonLocates", fn := fun _ => fun
  | [d1, d2] => { results := [.lit (.bool true)], args := [d1, d2] }
  | _ => none }
def polygonLocatesRow : OpenClaim := { program := "ytoikcgmdlccdbaadoor", sum := "f1a797e9169fd12f9245acf37e702e510b7160fd9f053b9890d9e9a7731aaee5", func := "geofence/geofencelaw14.PolygonLocates", spec := "polygonLocates", inPlace := ["slices.overlaps[geofence/api.Point]", "math/bits.Sub64", "math/bits.Add64"], unfollowed := true, recurses := true, named := ["geofence/mask.words"], apart := false, laid := [("geofence/mask.words", laid_geofence_mask_words)] }
def PolygonLocatesSaid : Prop := polygonLocatesRow.holds Tryd.pinned (OpenSpec.ofChange polygonLocatesSpec)

/-- ITS FALSE NEIGHBOUR: 'it returns false'. Refute it at one input. -/
def polygonLocatesWrong : ChangeSpec := { name := "polygonLocates", fn := fun _ => fun
  | [d1, d2] => { results := [.lit (.bool false)], args := [d1, d2] }
  | _ => none }
def PolygonLocatesWrongFalsely : Prop := polygonLocatesRow.holds Tryd.pinned (OpenSpec.ofChange polygonLocatesWrong)

/-- 'geofencelaw14.PolygonVertices': WHATEVER THE INPUT: true; the input reads as it did. -/
def polygonVerticesSpec : ChangeSpec := { name := "polygonVertices", fn := fun _ => fun
  | [d] => { results := [.lit (.bool true)], args := [d] }
  | _ => none }
def polygonVerticesRow : OpenClaim := { program := "ytoikcgmdlccdbaadoor", sum := "f1a797e9169fd12f9245acf37e702e510b7160fd9f053b9890d9e9a7731aaee5", func := "geofence/geofencelaw14.PolygonVertices", spec := "polygonVertices", inPlace := ["slices.overlaps[geofence/api.Point]", "math/bits.Sub64", "math/bits.Add64"], unfollowed := true, recurses := true, named := ["geofence/mask.words"], apart := false, laid := [("geofence/mask.words", laid_geofence_mask_words)] }
def PolygonVerticesSaid : Prop := polygonVerticesRow.holds Tryd.pinned (OpenSpec.ofChange polygonVerticesSpec)

/-- ITS FALSE NEIGHBOUR: 'it returns false'. Refute it at one input. -/
def polygonVerticesWrong : ChangeSpec := { name := "polygonVertices", fn := fun _ => fun
  | [d] => { results := [.lit (.bool false)], args := [d] }
  | _ => none }
def PolygonVerticesWrongFalsely : Prop := polygonVerticesRow.holds Tryd.pinned (OpenSpec.ofChange polygonVerticesWrong)

/-- 'geofencelaw14.PolygonMiddles': WHATEVER THE INPUT: true; the input reads as it did. -/
def polygonMiddlesSpec : ChangeSpec := { name := "polygonMiddles", fn := fun _ => fun
  | [d] => { results := [.lit (.bool true)], args := [d] }
  | _ => none }
def polygonMiddlesRow : OpenClaim := { program := "ytoikcgmdlccdbaadoor", sum := "f1a797e9169fd12f9245acf37e702e510b7160fd9f053b9890d9e9a7731aaee5", func := "geofence/geofencelaw14.PolygonMiddles", spec := "polygonMiddles", inPlace := ["slices.overlaps[geofence/api.Point]", "math/bits.Sub64", "math/bits.Add64"], unfollowed := true, recurses := true, named := ["geofence/mask.words"], apart := false, laid := [("geofence/mask.words", laid_geofence_mask_words)] }
def PolygonMiddlesSaid : Prop := polygonMiddlesRow.holds Tryd.pinned (OpenSpec.ofChange polygonMiddlesSpec)

/-- ITS FALSE NEIGHBOUR: 'it returns false'. Refute it at one input. -/
def polygonMiddlesWrong : ChangeSpec := { name := "polygonMiddles", fn := fun _ => fun
  | [d] => { results := [.lit (.bool false)], args := [d] }
  | _ => none }
def PolygonMiddlesWrongFalsely : Prop := polygonMiddlesRow.holds Tryd.pinned (OpenSpec.ofChange polygonMiddlesWrong)

/-- 'geofencelaw14.PolygonEvents': WHATEVER THE INPUT: true; the input reads as it did. -/
def polygonEventsSpec : ChangeSpec := { name := "polygonEvents", fn := fun _ => fun
  | [d1, d2] => { results := [.lit (.bool true)], args := [d1, d2] }
  | _ => none }
def polygonEventsRow : OpenClaim := { program := "ytoikcgmdlccdbaadoor", sum := "f1a797e9169fd12f9245acf37e702e510b7160fd9f053b9890d9e9a7731aaee5", func := "geofence/geofencelaw14.PolygonEvents", spec := "polygonEvents", inPlace := ["slices.overlaps[geofence/api.Point]", "math/bits.Sub64", "math/bits.Add64"], unfollowed := true, recurses := true, named := ["geofence/mask.words"], apart := false, laid := [("geofence/mask.words", laid_geofence_mask_words)] }
def PolygonEventsSaid : Prop := polygonEventsRow.holds Tryd.pinned (OpenSpec.ofChange polygonEventsSpec)

/-- ITS FALSE NEIGHBOUR: 'it returns false'. Refute it at one input. -/
def polygonEventsWrong : ChangeSpec := { name := "polygonEvents", fn := fun _ => fun
  | [d1, d2] => { results := [.lit (.bool false)], args := [d1, d2] }
  | _ => none }
def PolygonEventsWrongFalsely : Prop := polygonEventsRow.holds Tryd.pinned (OpenSpec.ofChange polygonEventsWrong)

/-- 'geofencelaw14.PolygonRotates': WHATEVER THE INPUT: true; the input reads as it did. -/
def polygonRotatesSpec : ChangeSpec := { name := "polygonRotates", fn := fun _ => fun
  | [d1, d2, d3] => { results := [.lit (.bool true)], args := [d1, d2, d3] }
  | _ => none }
def polygonRotatesRow : OpenClaim := { program := "ytoikcgmdlccdbaadoor", sum := "f1a797e9169fd12f9245acf37e702e510b7160fd9f053b9890d9e9a7731aaee5", func := "geofence/geofencelaw14.PolygonRotates", spec := "polygonRotates", inPlace := ["slices.overlaps[geofence/api.Point]", "math/bits.Sub64", "math/bits.Add64"], unfollowed := true, recurses := true, named := ["geofence/mask.words"], apart := false, laid := [("geofence/mask.words", laid_geofence_mask_words)] }
def PolygonRotatesSaid : Prop := polygonRotatesRow.holds Tryd.pinned (OpenSpec.ofChange polygonRotatesSpec)

/-- ITS FALSE NEIGHBOUR: 'it returns false'. Refute it at one input. -/
def polygonRotatesWrong : ChangeSpec := { name := "polygonRotates", fn := fun _ => fun
  | [d1, d2, d3] => { results := [.lit (.bool false)], args := [d1, d2, d3] }
  | _ => none }
def PolygonRotatesWrongFalsely : Prop := polygonRotatesRow.holds Tryd.pinned (OpenSpec.ofChange polygonRotatesWrong)

/- THE SECOND FORM. 'bulk': how many values and letters a reading holds, each counted each time it is reached (what is shared counts as often as it is met; a slice's spare places count too). A statement '..UptoSaid' is the law's where the arguments, and the package variables that the reading takes, are together of bulk at most 1048576: NARROWER than '..Said'. Prove '..Said' where nothing that the law and all that it calls make is longer than what came in: it says more and counts as full. Else prove '..UptoSaid'. A law counts once. -/
mutual
def uptoBulk {H : Type} : DataW H → Nat
  | .lit (.string bytes) => bytes.length + 1
  | .lit _ => 1
  | .nil => 1
  | .ptr d => uptoBulk d + 1
  | .slice elems spare => uptoBulkAll elems + uptoBulkAll spare + 1
  | .agg parts => uptoBulkAll parts + 1
  | .iface _ d => uptoBulk d + 1
  | .map entries => uptoBulkEntries entries + 1
  | .held _ => 1
def uptoBulkAll {H : Type} : List (DataW H) → Nat
  | [] => 0
  | d :: r => uptoBulk d + uptoBulkAll r
def uptoBulkEntries {H : Type} : List (Lit × DataW H) → Nat
  | [] => 0
  | x :: r => uptoBulkEntry x + uptoBulkEntries r
def uptoBulkEntry {H : Type} : Lit × DataW H → Nat
  | (.string bytes, d) => bytes.length + uptoBulk d + 1
  | (_, d) => uptoBulk d + 1
 end
def uptoSmall : (H : Type) → List (DataW H) → Bool := fun _ ds => decide (uptoBulkAll ds ≤ 1048576)
def OpenSpec.upto (s : _root_.Go.ChangeSpec) : _root_.Go.OpenSpec := { _root_.Go.OpenSpec.ofChange s with cond := some uptoSmall }

/-- 'geofencelaw08.SegmentWithin', WHERE WHAT IT READS IS OF BULK AT MOST 1048576: true; the input reads as it did. -/
def segmentWithinUptoRow : OpenClaim := { program := "ytoikcgmdlccdbaadoor", sum := "f1a797e9169fd12f9245acf37e702e510b7160fd9f053b9890d9e9a7731aaee5", func := "geofence/geofencelaw08.SegmentWithin", spec := "segmentWithin", inPlace := ["math/bits.Sub64", "math/bits.Add64"], unfollowed := true, recurses := true, named := ["geofence/orient.wanted", "geofence/mask.words"], apart := false, laid := [("geofence/mask.words", laid_geofence_mask_words), ("geofence/orient.wanted", laid_geofence_orient_wanted)], narrowed := true }
def SegmentWithinUptoSaid : Prop := segmentWithinUptoRow.holds Tryd.pinned (OpenSpec.upto segmentWithinSpec)

/-- 'geofencelaw08.SegmentContains', WHERE WHAT IT READS IS OF BULK AT MOST 1048576: true; the input reads as it did. -/
def segmentContainsUptoRow : OpenClaim := { program := "ytoikcgmdlccdbaadoor", sum := "f1a797e9169fd12f9245acf37e702e510b7160fd9f053b9890d9e9a7731aaee5", func := "geofence/geofencelaw08.SegmentContains", spec := "segmentContains", inPlace := ["math/bits.Sub64", "math/bits.Add64"], unfollowed := true, recurses := true, named := ["geofence/orient.wanted", "geofence/mask.words"], apart := false, laid := [("geofence/mask.words", laid_geofence_mask_words), ("geofence/orient.wanted", laid_geofence_orient_wanted)], narrowed := true }
def SegmentContainsUptoSaid : Prop := segmentContainsUptoRow.holds Tryd.pinned (OpenSpec.upto segmentContainsSpec)

/-- 'geofencelaw08.SegmentMeets', WHERE WHAT IT READS IS OF BULK AT MOST 1048576: true; the input reads as it did. -/
def segmentMeetsUptoRow : OpenClaim := { program := "ytoikcgmdlccdbaadoor", sum := "f1a797e9169fd12f9245acf37e702e510b7160fd9f053b9890d9e9a7731aaee5", func := "geofence/geofencelaw08.SegmentMeets", spec := "segmentMeets", inPlace := ["math/bits.Sub64", "math/bits.Add64"], unfollowed := true, recurses := true, named := ["geofence/orient.wanted", "geofence/mask.words"], apart := false, laid := [("geofence/mask.words", laid_geofence_mask_words), ("geofence/orient.wanted", laid_geofence_orient_wanted)], narrowed := true }
def SegmentMeetsUptoSaid : Prop := segmentMeetsUptoRow.holds Tryd.pinned (OpenSpec.upto segmentMeetsSpec)

/-- 'geofencelaw08.SegmentSymmetries', WHERE WHAT IT READS IS OF BULK AT MOST 1048576: true; the input reads as it did. -/
def segmentSymmetriesUptoRow : OpenClaim := { program := "ytoikcgmdlccdbaadoor", sum := "f1a797e9169fd12f9245acf37e702e510b7160fd9f053b9890d9e9a7731aaee5", func := "geofence/geofencelaw08.SegmentSymmetries", spec := "segmentSymmetries", inPlace := ["math/bits.Sub64", "math/bits.Add64"], unfollowed := true, recurses := true, named := ["geofence/mask.words", "geofence/orient.wanted"], apart := false, laid := [("geofence/mask.words", laid_geofence_mask_words), ("geofence/orient.wanted", laid_geofence_orient_wanted)], narrowed := true }
def SegmentSymmetriesUptoSaid : Prop := segmentSymmetriesUptoRow.holds Tryd.pinned (OpenSpec.upto segmentSymmetriesSpec)

/-- 'geofencelaw08.SegmentItself', WHERE WHAT IT READS IS OF BULK AT MOST 1048576: true; the input reads as it did. -/
def segmentItselfUptoRow : OpenClaim := { program := "ytoikcgmdlccdbaadoor", sum := "f1a797e9169fd12f9245acf37e702e510b7160fd9f053b9890d9e9a7731aaee5", func := "geofence/geofencelaw08.SegmentItself", spec := "segmentItself", inPlace := ["math/bits.Sub64", "math/bits.Add64"], unfollowed := true, recurses := true, named := ["geofence/orient.wanted", "geofence/mask.words"], apart := false, laid := [("geofence/mask.words", laid_geofence_mask_words), ("geofence/orient.wanted", laid_geofence_orient_wanted)], narrowed := true }
def SegmentItselfUptoSaid : Prop := segmentItselfUptoRow.holds Tryd.pinned (OpenSpec.upto segmentItselfSpec)

/-- 'geofencelaw08.SegmentImplications', WHERE WHAT IT READS IS OF BULK AT MOST 1048576: true; the input reads as it did. -/
def segmentImplicationsUptoRow : OpenClaim := { program := "ytoikcgmdlccdbaadoor", sum := "f1a797e9169fd12f9245acf37e702e510b7160fd9f053b9890d9e9a7731aaee5", func := "geofence/geofencelaw08.SegmentImplications", spec := "segmentImplications", inPlace := ["math/bits.Sub64", "math/bits.Add64"], unfollowed := true, recurses := true, named := ["geofence/mask.words", "geofence/orient.wanted"], apart := false, laid := [("geofence/mask.words", laid_geofence_mask_words), ("geofence/orient.wanted", laid_geofence_orient_wanted)], narrowed := true }
def SegmentImplicationsUptoSaid : Prop := segmentImplicationsUptoRow.holds Tryd.pinned (OpenSpec.upto segmentImplicationsSpec)

/-- 'geofencelaw15.DiscMatchesReference', WHERE WHAT IT READS IS OF BULK AT MOST 1048576: true; the input reads as it did. -/
def discMatchesReferenceUptoRow : OpenClaim := { program := "ytoikcgmdlccdbaadoor", sum := "f1a797e9169fd12f9245acf37e702e510b7160fd9f053b9890d9e9a7731aaee5", func := "geofence/geofencelaw15.DiscMatchesReference", spec := "discMatchesReference", inPlace := ["math/bits.Sub64", "math/bits.Add64"], unfollowed := true, recurses := true, named := ["geofence/mask.words"], apart := false, laid := [("geofence/mask.words", laid_geofence_mask_words)], narrowed := true }
def DiscMatchesReferenceUptoSaid : Prop := discMatchesReferenceUptoRow.holds Tryd.pinned (OpenSpec.upto discMatchesReferenceSpec)

/-- 'geofencelaw15.DiscOrder', WHERE WHAT IT READS IS OF BULK AT MOST 1048576: true; the input reads as it did. -/
def discOrderUptoRow : OpenClaim := { program := "ytoikcgmdlccdbaadoor", sum := "f1a797e9169fd12f9245acf37e702e510b7160fd9f053b9890d9e9a7731aaee5", func := "geofence/geofencelaw15.DiscOrder", spec := "discOrder", inPlace := ["math/bits.Sub64", "math/bits.Add64"], unfollowed := true, recurses := true, named := ["geofence/mask.words"], apart := false, laid := [("geofence/mask.words", laid_geofence_mask_words)], narrowed := true }
def DiscOrderUptoSaid : Prop := discOrderUptoRow.holds Tryd.pinned (OpenSpec.upto discOrderSpec)

/-- 'geofencelaw15.DiscBoundary', WHERE WHAT IT READS IS OF BULK AT MOST 1048576: true; the input reads as it did. -/
def discBoundaryUptoRow : OpenClaim := { program := "ytoikcgmdlccdbaadoor", sum := "f1a797e9169fd12f9245acf37e702e510b7160fd9f053b9890d9e9a7731aaee5", func := "geofence/geofencelaw15.DiscBoundary", spec := "discBoundary", inPlace := ["math/bits.Sub64", "math/bits.Add64"], unfollowed := true, recurses := true, named := ["geofence/mask.words"], apart := false, laid := [("geofence/mask.words", laid_geofence_mask_words)], narrowed := true }
def DiscBoundaryUptoSaid : Prop := discBoundaryUptoRow.holds Tryd.pinned (OpenSpec.upto discBoundarySpec)

/-- 'geofencelaw15.DiscMiddles', WHERE WHAT IT READS IS OF BULK AT MOST 1048576: true; the input reads as it did. -/
def discMiddlesUptoRow : OpenClaim := { program := "ytoikcgmdlccdbaadoor", sum := "f1a797e9169fd12f9245acf37e702e510b7160fd9f053b9890d9e9a7731aaee5", func := "geofence/geofencelaw15.DiscMiddles", spec := "discMiddles", inPlace := ["math/bits.Sub64", "math/bits.Add64"], unfollowed := true, recurses := true, named := ["geofence/mask.words"], apart := false, laid := [("geofence/mask.words", laid_geofence_mask_words)], narrowed := true }
def DiscMiddlesUptoSaid : Prop := discMiddlesUptoRow.holds Tryd.pinned (OpenSpec.upto discMiddlesSpec)

/-- 'geofencelaw15.DiscRadius', WHERE WHAT IT READS IS OF BULK AT MOST 1048576: true; the input reads as it did. -/
def discRadiusUptoRow : OpenClaim := { program := "ytoikcgmdlccdbaadoor", sum := "f1a797e9169fd12f9245acf37e702e510b7160fd9f053b9890d9e9a7731aaee5", func := "geofence/geofencelaw15.DiscRadius", spec := "discRadius", inPlace := ["math/bits.Sub64", "math/bits.Add64"], unfollowed := true, recurses := true, named := ["geofence/mask.words"], apart := false, laid := [("geofence/mask.words", laid_geofence_mask_words)], narrowed := true }
def DiscRadiusUptoSaid : Prop := discRadiusUptoRow.holds Tryd.pinned (OpenSpec.upto discRadiusSpec)

/-- 'geofencelaw15.DiscEvents', WHERE WHAT IT READS IS OF BULK AT MOST 1048576: true; the input reads as it did. -/
def discEventsUptoRow : OpenClaim := { program := "ytoikcgmdlccdbaadoor", sum := "f1a797e9169fd12f9245acf37e702e510b7160fd9f053b9890d9e9a7731aaee5", func := "geofence/geofencelaw15.DiscEvents", spec := "discEvents", inPlace := ["math/bits.Sub64", "math/bits.Add64"], unfollowed := true, recurses := true, named := ["geofence/mask.words"], apart := false, laid := [("geofence/mask.words", laid_geofence_mask_words)], narrowed := true }
def DiscEventsUptoSaid : Prop := discEventsUptoRow.holds Tryd.pinned (OpenSpec.upto discEventsSpec)

/-- 'geofencelaw14.PolygonValid', WHERE WHAT IT READS IS OF BULK AT MOST 1048576: true; the input reads as it did. -/
def polygonValidUptoRow : OpenClaim := { program := "ytoikcgmdlccdbaadoor", sum := "f1a797e9169fd12f9245acf37e702e510b7160fd9f053b9890d9e9a7731aaee5", func := "geofence/geofencelaw14.PolygonValid", spec := "polygonValid", inPlace := ["slices.overlaps[geofence/api.Point]", "math/bits.Sub64", "math/bits.Add64"], unfollowed := true, recurses := true, named := ["geofence/mask.words"], apart := false, laid := [("geofence/mask.words", laid_geofence_mask_words)], narrowed := true }
def PolygonValidUptoSaid : Prop := polygonValidUptoRow.holds Tryd.pinned (OpenSpec.upto polygonValidSpec)

/-- 'geofencelaw14.PolygonLocates', WHERE WHAT IT READS IS OF BULK AT MOST 1048576: true; the input reads as it did. -/
def polygonLocatesUptoRow : OpenClaim := { program := "ytoikcgmdlccdbaadoor", sum := "f1a797e9169fd12f9245acf37e702e510b7160fd9f053b9890d9e9a7731aaee5", func := "geofence/geofencelaw14.PolygonLocates", spec := "polygonLocates", inPlace := ["slices.overlaps[geofence/api.Point]", "math/bits.Sub64", "math/bits.Add64"], unfollowed := true, recurses := true, named := ["geofence/mask.words"], apart := false, laid := [("geofence/mask.words", laid_geofence_mask_words)], narrowed := true }
def PolygonLocatesUptoSaid : Prop := polygonLocatesUptoRow.holds Tryd.pinned (OpenSpec.upto polygonLocatesSpec)

/-- 'geofencelaw14.PolygonVertices', WHERE WHAT IT READS IS OF BULK AT MOST 1048576: true; the input reads as it did. -/
def polygonVerticesUptoRow : OpenClaim := { program := "ytoikcgmdlccdbaadoor", sum := "f1a797e9169fd12f9245acf37e702e510b7160fd9f053b9890d9e9a7731aaee5", func := "geofence/geofencelaw14.PolygonVertices", spec := "polygonVertices", inPlace := ["slices.overlaps[geofence/api.Point]", "math/bits.Sub64", "math/bits.Add64"], unfollowed := true, recurses := true, named := ["geofence/mask.words"], apart := false, laid := [("geofence/mask.words", laid_geofence_mask_words)], narrowed := true }
def PolygonVerticesUptoSaid : Prop := polygonVerticesUptoRow.holds Tryd.pinned (OpenSpec.upto polygonVerticesSpec)

/-- 'geofencelaw14.PolygonMiddles', WHERE WHAT IT READS IS OF BULK AT MOST 1048576: true; the input reads as it did. -/
def polygonMiddlesUptoRow : OpenClaim := { program := "ytoikcgmdlccdbaadoor", sum := "f1a797e9169fd12f9245acf37e702e510b7160fd9f053b9890d9e9a7731aaee5", func := "geofence/geofencelaw14.PolygonMiddles", spec := "polygonMiddles", inPlace := ["slices.overlaps[geofence/api.Point]", "math/bits.Sub64", "math/bits.Add64"], unfollowed := true, recurses := true, named := ["geofence/mask.words"], apart := false, laid := [("geofence/mask.words", laid_geofence_mask_words)], narrowed := true }
def PolygonMiddlesUptoSaid : Prop := polygonMiddlesUptoRow.holds Tryd.pinned (OpenSpec.upto polygonMiddlesSpec)

/-- 'geofencelaw14.PolygonEvents', WHERE WHAT IT READS IS OF BULK AT MOST 1048576: true; the input reads as it did. -/
def polygonEventsUptoRow : OpenClaim := { program := "ytoikcgmdlccdbaadoor", sum := "f1a797e9169fd12f9245acf37e702e510b7160fd9f053b9890d9e9a7731aaee5", func := "geofence/geofencelaw14.PolygonEvents", spec := "polygonEvents", inPlace := ["slices.overlaps[geofence/api.Point]", "math/bits.Sub64", "math/bits.Add64"], unfollowed := true, recurses := true, named := ["geofence/mask.words"], apart := false, laid := [("geofence/mask.words", laid_geofence_mask_words)], narrowed := true }
def PolygonEventsUptoSaid : Prop := polygonEventsUptoRow.holds Tryd.pinned (OpenSpec.upto polygonEventsSpec)

/-- 'geofencelaw14.PolygonRotates', WHERE WHAT IT READS IS OF BULK AT MOST 1048576: true; the input reads as it did. -/
def polygonRotatesUptoRow : OpenClaim := { program := "ytoikcgmdlccdbaadoor", sum := "f1a797e9169fd12f9245acf37e702e510b7160fd9f053b9890d9e9a7731aaee5", func := "geofence/geofencelaw14.PolygonRotates", spec := "polygonRotates", inPlace := ["slices.overlaps[geofence/api.Point]", "math/bits.Sub64", "math/bits.Add64"], unfollowed := true, recurses := true, named := ["geofence/mask.words"], apart := false, laid := [("geofence/mask.words", laid_geofence_mask_words)], narrowed := true }
def PolygonRotatesUptoSaid : Prop := polygonRotatesUptoRow.holds Tryd.pinned (OpenSpec.upto polygonRotatesSpec)

end Rows
end Go.Proofs.YtoikcgmdlccdbaaDoor
