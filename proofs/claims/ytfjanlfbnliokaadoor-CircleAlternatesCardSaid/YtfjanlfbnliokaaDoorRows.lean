/-
  NARROWER THAN 'FOR EVERY INPUT', by the rows' own cells (each row's printed sentence says how): OrientIsExact: laid · OrientMasks: laid · OrientAlternates: laid · OrientTranslates: laid · OrientAddsUp: laid · OrientFits: laid · CircleIsExact: laid · CircleSides: laid · CircleAlternates: laid · CircleTranslates: laid · CircleCorners: laid · CircleOnItself: laid.
  DERIVED. THE GIVEN ROWS OF THIS SEAT. 12 by the template 'for every input the law returns true; each argument reads behind the call as it read before'; 0 by the template 'total and deterministic' (their statements: YtfjanlfbnliokaaDoorTotals.lean).
  GIVEN WITH THE SEED: the statements are not yours to turn. If you find one false, say at which input.
  Laid BY PROGRAM, IN A SANDBOX (cutbox-rows.mjs): the forced cells as the released guide's own fill.sh prints them over the translation 68e87e87b6238670… (all of the seat's roots in one cut). By AI agents, Wed Nov 11 2026. No macro, syntax, notation, axiom, sorry.
-/
import Derived.Test.YtfjanlfbnliokaaDoorChecked
import GoSem.Claim
import GoSem.ClaimJoined
import GoSem.ClaimMapViews
import Derived.JoinedTies
import Derived.KernelRfl
namespace Go.Proofs.YtfjanlfbnliokaaDoor
/- THE CELL 'sum', in the pinned program and in every row, IS THE sha256 OF THE DUMP (.gsa) THAT YtfjanlfbnliokaaDoorProg.lean LOADS. Nothing in Lean hashes anything: it is a label: what it is worth is what the hold of that sum in a sandbox is worth. -/
noncomputable def Tryd.pinned : Pinned := { name := "ytfjanlfbnliokaadoor", sum := "68e87e87b6238670044f7a83e9283e763116277ac4315ca026755ce818282ee3", checked := Tryd.checked }
namespace Rows
def none {H : Type} : Left H := { results := [], args := [] }

/- WHAT THE LISTED PACKAGE-LEVEL VARIABLES READ AS WHEN THE CALL BEGINS. Each datum BY PROGRAM (the guide's laid-datum.mjs) off the statement by which the dump's own 'gosem.cut.vars' lays the variable. In a bare row this is a premise. The card (YtfjanlfbnliokaaDoorCards.lean) ties it to the program's text. -/
def laid_geofence_mask_words {H : Type} : DataW H := .agg [.lit (.int .u64 9223372036854775808), .lit (.int .u64 18446744073709551615)]
def laid_geofence_orient_wanted {H : Type} : DataW H := .agg [.lit (.int .u64 0), .lit (.int .u64 1)]

/-- 'geofencelaw06.OrientIsExact': WHATEVER THE INPUT: true; the input reads as it did. -/
def orientIsExactSpec : ChangeSpec := { name := "orientIsExact", fn := fun _ => fun
  | [d1, d2, d3] => { results := [.lit (.bool true)], args := [d1, d2, d3] }
  | _ => none }
def orientIsExactRow : OpenClaim := { program := "ytfjanlfbnliokaadoor", sum := "68e87e87b6238670044f7a83e9283e763116277ac4315ca026755ce818282ee3", func := "geofence/geofencelaw06.OrientIsExact", spec := "orientIsExact", inPlace := ["math/bits.Sub64", "math/bits.Add64"], unfollowed := true, recurses := true, named := ["geofence/mask.words", "geofence/orient.wanted"], apart := false, laid := [("geofence/mask.words", laid_geofence_mask_words), ("geofence/orient.wanted", laid_geofence_orient_wanted)] }
def OrientIsExactSaid : Prop := orientIsExactRow.holds Tryd.pinned (OpenSpec.ofChange orientIsExactSpec)

/-- ITS FALSE NEIGHBOUR: 'it returns false'. Refute it at one input. -/
def orientIsExactWrong : ChangeSpec := { name := "orientIsExact", fn := fun _ => fun
  | [d1, d2, d3] => { results := [.lit (.bool false)], args := [d1, d2, d3] }
  | _ => none }
def OrientIsExactWrongFalsely : Prop := orientIsExactRow.holds Tryd.pinned (OpenSpec.ofChange orientIsExactWrong)

/-- 'geofencelaw06.OrientMasks': WHATEVER THE INPUT: true; the input reads as it did. -/
def orientMasksSpec : ChangeSpec := { name := "orientMasks", fn := fun _ => fun
  | [d1, d2, d3] => { results := [.lit (.bool true)], args := [d1, d2, d3] }
  | _ => none }
def orientMasksRow : OpenClaim := { program := "ytfjanlfbnliokaadoor", sum := "68e87e87b6238670044f7a83e9283e763116277ac4315ca026755ce818282ee3", func := "geofence/geofencelaw06.OrientMasks", spec := "orientMasks", inPlace := ["math/bits.Sub64", "math/bits.Add64"], unfollowed := true, recurses := true, named := ["geofence/mask.words", "geofence/orient.wanted"], apart := false, laid := [("geofence/mask.words", laid_geofence_mask_words), ("geofence/orient.wanted", laid_geofence_orient_wanted)] }
def OrientMasksSaid : Prop := orientMasksRow.holds Tryd.pinned (OpenSpec.ofChange orientMasksSpec)

/-- ITS FALSE NEIGHBOUR: 'it returns false'. Refute it at one input. -/
def orientMasksWrong : ChangeSpec := { name := "orientMasks", fn := fun _ => fun
  | [d1, d2, d3] => { results := [.lit (.bool false)], args := [d1, d2, d3] }
  | _ => none }
def OrientMasksWrongFalsely : Prop := orientMasksRow.holds Tryd.pinned (OpenSpec.ofChange orientMasksWrong)

/-- 'geofencelaw06.OrientAlternates': WHATEVER THE INPUT: true; the input reads as it did. -/
def orientAlternatesSpec : ChangeSpec := { name := "orientAlternates", fn := fun _ => fun
  | [d1, d2, d3] => { results := [.lit (.bool true)], args := [d1, d2, d3] }
  | _ => none }
def orientAlternatesRow : OpenClaim := { program := "ytfjanlfbnliokaadoor", sum := "68e87e87b6238670044f7a83e9283e763116277ac4315ca026755ce818282ee3", func := "geofence/geofencelaw06.OrientAlternates", spec := "orientAlternates", inPlace := ["math/bits.Sub64", "math/bits.Add64"], unfollowed := true, recurses := true, named := ["geofence/mask.words", "geofence/orient.wanted"], apart := false, laid := [("geofence/mask.words", laid_geofence_mask_words), ("geofence/orient.wanted", laid_geofence_orient_wanted)] }
def OrientAlternatesSaid : Prop := orientAlternatesRow.holds Tryd.pinned (OpenSpec.ofChange orientAlternatesSpec)

/-- ITS FALSE NEIGHBOUR: 'it returns false'. Refute it at one input. -/
def orientAlternatesWrong : ChangeSpec := { name := "orientAlternates", fn := fun _ => fun
  | [d1, d2, d3] => { results := [.lit (.bool false)], args := [d1, d2, d3] }
  | _ => none }
def OrientAlternatesWrongFalsely : Prop := orientAlternatesRow.holds Tryd.pinned (OpenSpec.ofChange orientAlternatesWrong)

/-- 'geofencelaw06.OrientTranslates': WHATEVER THE INPUT: true; the input reads as it did. -/
def orientTranslatesSpec : ChangeSpec := { name := "orientTranslates", fn := fun _ => fun
  | [d1, d2] => { results := [.lit (.bool true)], args := [d1, d2] }
  | _ => none }
def orientTranslatesRow : OpenClaim := { program := "ytfjanlfbnliokaadoor", sum := "68e87e87b6238670044f7a83e9283e763116277ac4315ca026755ce818282ee3", func := "geofence/geofencelaw06.OrientTranslates", spec := "orientTranslates", inPlace := ["math/bits.Sub64", "math/bits.Add64"], unfollowed := true, recurses := true, named := ["geofence/mask.words", "geofence/orient.wanted"], apart := false, laid := [("geofence/mask.words", laid_geofence_mask_words), ("geofence/orient.wanted", laid_geofence_orient_wanted)] }
def OrientTranslatesSaid : Prop := orientTranslatesRow.holds Tryd.pinned (OpenSpec.ofChange orientTranslatesSpec)

/-- ITS FALSE NEIGHBOUR: 'it returns false'. Refute it at one input. -/
def orientTranslatesWrong : ChangeSpec := { name := "orientTranslates", fn := fun _ => fun
  | [d1, d2] => { results := [.lit (.bool false)], args := [d1, d2] }
  | _ => none }
def OrientTranslatesWrongFalsely : Prop := orientTranslatesRow.holds Tryd.pinned (OpenSpec.ofChange orientTranslatesWrong)

/-- 'geofencelaw06.OrientAddsUp': WHATEVER THE INPUT: true; the input reads as it did. -/
def orientAddsUpSpec : ChangeSpec := { name := "orientAddsUp", fn := fun _ => fun
  | [d1, d2] => { results := [.lit (.bool true)], args := [d1, d2] }
  | _ => none }
def orientAddsUpRow : OpenClaim := { program := "ytfjanlfbnliokaadoor", sum := "68e87e87b6238670044f7a83e9283e763116277ac4315ca026755ce818282ee3", func := "geofence/geofencelaw06.OrientAddsUp", spec := "orientAddsUp", inPlace := ["math/bits.Sub64", "math/bits.Add64"], unfollowed := true, recurses := true, named := ["geofence/mask.words", "geofence/orient.wanted"], apart := false, laid := [("geofence/mask.words", laid_geofence_mask_words), ("geofence/orient.wanted", laid_geofence_orient_wanted)] }
def OrientAddsUpSaid : Prop := orientAddsUpRow.holds Tryd.pinned (OpenSpec.ofChange orientAddsUpSpec)

/-- ITS FALSE NEIGHBOUR: 'it returns false'. Refute it at one input. -/
def orientAddsUpWrong : ChangeSpec := { name := "orientAddsUp", fn := fun _ => fun
  | [d1, d2] => { results := [.lit (.bool false)], args := [d1, d2] }
  | _ => none }
def OrientAddsUpWrongFalsely : Prop := orientAddsUpRow.holds Tryd.pinned (OpenSpec.ofChange orientAddsUpWrong)

/-- 'geofencelaw06.OrientFits': WHATEVER THE INPUT: true; the input reads as it did. -/
def orientFitsSpec : ChangeSpec := { name := "orientFits", fn := fun _ => fun
  | [d1, d2, d3] => { results := [.lit (.bool true)], args := [d1, d2, d3] }
  | _ => none }
def orientFitsRow : OpenClaim := { program := "ytfjanlfbnliokaadoor", sum := "68e87e87b6238670044f7a83e9283e763116277ac4315ca026755ce818282ee3", func := "geofence/geofencelaw06.OrientFits", spec := "orientFits", inPlace := ["math/bits.Sub64", "math/bits.Add64"], unfollowed := true, recurses := true, named := ["geofence/mask.words", "geofence/orient.wanted"], apart := false, laid := [("geofence/mask.words", laid_geofence_mask_words), ("geofence/orient.wanted", laid_geofence_orient_wanted)] }
def OrientFitsSaid : Prop := orientFitsRow.holds Tryd.pinned (OpenSpec.ofChange orientFitsSpec)

/-- ITS FALSE NEIGHBOUR: 'it returns false'. Refute it at one input. -/
def orientFitsWrong : ChangeSpec := { name := "orientFits", fn := fun _ => fun
  | [d1, d2, d3] => { results := [.lit (.bool false)], args := [d1, d2, d3] }
  | _ => none }
def OrientFitsWrongFalsely : Prop := orientFitsRow.holds Tryd.pinned (OpenSpec.ofChange orientFitsWrong)

/-- 'geofencelaw07.CircleIsExact': WHATEVER THE INPUT: true; the input reads as it did. -/
def circleIsExactSpec : ChangeSpec := { name := "circleIsExact", fn := fun _ => fun
  | [d] => { results := [.lit (.bool true)], args := [d] }
  | _ => none }
def circleIsExactRow : OpenClaim := { program := "ytfjanlfbnliokaadoor", sum := "68e87e87b6238670044f7a83e9283e763116277ac4315ca026755ce818282ee3", func := "geofence/geofencelaw07.CircleIsExact", spec := "circleIsExact", inPlace := ["math/bits.Sub64", "math/bits.Add64"], unfollowed := true, recurses := true, named := ["geofence/mask.words"], apart := false, laid := [("geofence/mask.words", laid_geofence_mask_words)] }
def CircleIsExactSaid : Prop := circleIsExactRow.holds Tryd.pinned (OpenSpec.ofChange circleIsExactSpec)

/-- ITS FALSE NEIGHBOUR: 'it returns false'. Refute it at one input. -/
def circleIsExactWrong : ChangeSpec := { name := "circleIsExact", fn := fun _ => fun
  | [d] => { results := [.lit (.bool false)], args := [d] }
  | _ => none }
def CircleIsExactWrongFalsely : Prop := circleIsExactRow.holds Tryd.pinned (OpenSpec.ofChange circleIsExactWrong)

/-- 'geofencelaw07.CircleSides': WHATEVER THE INPUT: true; the input reads as it did. -/
def circleSidesSpec : ChangeSpec := { name := "circleSides", fn := fun _ => fun
  | [d] => { results := [.lit (.bool true)], args := [d] }
  | _ => none }
def circleSidesRow : OpenClaim := { program := "ytfjanlfbnliokaadoor", sum := "68e87e87b6238670044f7a83e9283e763116277ac4315ca026755ce818282ee3", func := "geofence/geofencelaw07.CircleSides", spec := "circleSides", inPlace := ["math/bits.Sub64", "math/bits.Add64"], unfollowed := true, recurses := true, named := ["geofence/mask.words"], apart := false, laid := [("geofence/mask.words", laid_geofence_mask_words)] }
def CircleSidesSaid : Prop := circleSidesRow.holds Tryd.pinned (OpenSpec.ofChange circleSidesSpec)

/-- ITS FALSE NEIGHBOUR: 'it returns false'. Refute it at one input. -/
def circleSidesWrong : ChangeSpec := { name := "circleSides", fn := fun _ => fun
  | [d] => { results := [.lit (.bool false)], args := [d] }
  | _ => none }
def CircleSidesWrongFalsely : Prop := circleSidesRow.holds Tryd.pinned (OpenSpec.ofChange circleSidesWrong)

/-- 'geofencelaw07.CircleAlternates': WHATEVER THE INPUT: true; the input reads as it did. -/
def circleAlternatesSpec : ChangeSpec := { name := "circleAlternates", fn := fun _ => fun
  | [d1, d2, d3] => { results := [.lit (.bool true)], args := [d1, d2, d3] }
  | _ => none }
def circleAlternatesRow : OpenClaim := { program := "ytfjanlfbnliokaadoor", sum := "68e87e87b6238670044f7a83e9283e763116277ac4315ca026755ce818282ee3", func := "geofence/geofencelaw07.CircleAlternates", spec := "circleAlternates", inPlace := ["math/bits.Sub64", "math/bits.Add64"], unfollowed := true, recurses := true, named := ["geofence/mask.words"], apart := false, laid := [("geofence/mask.words", laid_geofence_mask_words)] }
def CircleAlternatesSaid : Prop := circleAlternatesRow.holds Tryd.pinned (OpenSpec.ofChange circleAlternatesSpec)

/-- ITS FALSE NEIGHBOUR: 'it returns false'. Refute it at one input. -/
def circleAlternatesWrong : ChangeSpec := { name := "circleAlternates", fn := fun _ => fun
  | [d1, d2, d3] => { results := [.lit (.bool false)], args := [d1, d2, d3] }
  | _ => none }
def CircleAlternatesWrongFalsely : Prop := circleAlternatesRow.holds Tryd.pinned (OpenSpec.ofChange circleAlternatesWrong)

/-- 'geofencelaw07.CircleTranslates': WHATEVER THE INPUT: true; the input reads as it did. -/
def circleTranslatesSpec : ChangeSpec := { name := "circleTranslates", fn := fun _ => fun
  | [d1, d2] => { results := [.lit (.bool true)], args := [d1, d2] }
  | _ => none }
def circleTranslatesRow : OpenClaim := { program := "ytfjanlfbnliokaadoor", sum := "68e87e87b6238670044f7a83e9283e763116277ac4315ca026755ce818282ee3", func := "geofence/geofencelaw07.CircleTranslates", spec := "circleTranslates", inPlace := ["math/bits.Sub64", "math/bits.Add64"], unfollowed := true, recurses := true, named := ["geofence/mask.words"], apart := false, laid := [("geofence/mask.words", laid_geofence_mask_words)] }
def CircleTranslatesSaid : Prop := circleTranslatesRow.holds Tryd.pinned (OpenSpec.ofChange circleTranslatesSpec)

/-- ITS FALSE NEIGHBOUR: 'it returns false'. Refute it at one input. -/
def circleTranslatesWrong : ChangeSpec := { name := "circleTranslates", fn := fun _ => fun
  | [d1, d2] => { results := [.lit (.bool false)], args := [d1, d2] }
  | _ => none }
def CircleTranslatesWrongFalsely : Prop := circleTranslatesRow.holds Tryd.pinned (OpenSpec.ofChange circleTranslatesWrong)

/-- 'geofencelaw07.CircleCorners': WHATEVER THE INPUT: true; the input reads as it did. -/
def circleCornersSpec : ChangeSpec := { name := "circleCorners", fn := fun _ => fun
  | [d1, d2, d3] => { results := [.lit (.bool true)], args := [d1, d2, d3] }
  | _ => none }
def circleCornersRow : OpenClaim := { program := "ytfjanlfbnliokaadoor", sum := "68e87e87b6238670044f7a83e9283e763116277ac4315ca026755ce818282ee3", func := "geofence/geofencelaw07.CircleCorners", spec := "circleCorners", inPlace := ["math/bits.Sub64", "math/bits.Add64"], unfollowed := true, recurses := true, named := ["geofence/mask.words"], apart := false, laid := [("geofence/mask.words", laid_geofence_mask_words)] }
def CircleCornersSaid : Prop := circleCornersRow.holds Tryd.pinned (OpenSpec.ofChange circleCornersSpec)

/-- ITS FALSE NEIGHBOUR: 'it returns false'. Refute it at one input. -/
def circleCornersWrong : ChangeSpec := { name := "circleCorners", fn := fun _ => fun
  | [d1, d2, d3] => { results := [.lit (.bool false)], args := [d1, d2, d3] }
  | _ => none }
def CircleCornersWrongFalsely : Prop := circleCornersRow.holds Tryd.pinned (OpenSpec.ofChange circleCornersWrong)

/-- 'geofencelaw07.CircleOnItself': WHATEVER THE INPUT: true; the input reads as it did. -/
def circleOnItselfSpec : ChangeSpec := { name := "circleOnItself", fn := fun _ => fun
  | [d] => { results := [.lit (.bool true)], args := [d] }
  | _ => none }
def circleOnItselfRow : OpenClaim := { program := "ytfjanlfbnliokaadoor", sum := "68e87e87b6238670044f7a83e9283e763116277ac4315ca026755ce818282ee3", func := "geofence/geofencelaw07.CircleOnItself", spec := "circleOnItself", inPlace := ["math/bits.Sub64", "math/bits.Add64"], unfollowed := true, recurses := true, named := ["geofence/mask.words"], apart := false, laid := [("geofence/mask.words", laid_geofence_mask_words)] }
def CircleOnItselfSaid : Prop := circleOnItselfRow.holds Tryd.pinned (OpenSpec.ofChange circleOnItselfSpec)

/-- ITS FALSE NEIGHBOUR: 'it returns false'. Refute it at one input. -/
def circleOnItselfWrong : ChangeSpec := { name := "circleOnItself", fn := fun _ => fun
  | [d] => { results := [.lit (.bool false)], args := [d] }
  | _ => none }
def CircleOnItselfWrongFalsely : Prop := circleOnItselfRow.holds Tryd.pinned (OpenSpec.ofChange circleOnItselfWrong)

/- THE SECOND FORM. 'bulk': how many values and letters a reading holds, each counted each time it is reached (what is shared counts as often as it is met; a slice's spare places count too). A statement '..UptoSaid' is the law's where the arguments, and the package variables that the reading takes, are together of bulk at most 1048576: NARROWER than '..Said'. Prove '..Said' where nothing that the law and all that it calls make is longer than what came in: it says more and counts as full. Else prove '..UptoSaid'. A law counts once. -/
mutual
def uptoBulk {H : Type} : DataW H → Nat
  | .lit (.string bytes) => bytes.length + 1
  | .lit _ => 1
  | .nil => 1
  | .ptr d => uptoBulk d + 1
  | .slice elems spare => uptoBulkAll elems + uptoBulkAll spare + 1
  | .agg parts => uptoBulkAll parts + 1
  | .iface _ d => uptoBulk d + 1
  | .map entries => uptoBulkEntries entries + 1
  | .held _ => 1
def uptoBulkAll {H : Type} : List (DataW H) → Nat
  | [] => 0
  | d :: r => uptoBulk d + uptoBulkAll r
def uptoBulkEntries {H : Type} : List (Lit × DataW H) → Nat
  | [] => 0
  | x :: r => uptoBulkEntry x + uptoBulkEntries r
def uptoBulkEntry {H : Type} : Lit × DataW H → Nat
  | (.string bytes, d) => bytes.length + uptoBulk d + 1
  | (_, d) => uptoBulk d + 1
 end
def uptoSmall : (H : Type) → List (DataW H) → Bool := fun _ ds => decide (uptoBulkAll ds ≤ 1048576)
def OpenSpec.upto (s : _root_.Go.ChangeSpec) : _root_.Go.OpenSpec := { _root_.Go.OpenSpec.ofChange s with cond := some uptoSmall }

/-- 'geofencelaw06.OrientIsExact', WHERE WHAT IT READS IS OF BULK AT MOST 1048576: true; the input reads as it did. -/
def orientIsExactUptoRow : OpenClaim := { program := "ytfjanlfbnliokaadoor", sum := "68e87e87b6238670044f7a83e9283e763116277ac4315ca026755ce818282ee3", func := "geofence/geofencelaw06.OrientIsExact", spec := "orientIsExact", inPlace := ["math/bits.Sub64", "math/bits.Add64"], unfollowed := true, recurses := true, named := ["geofence/mask.words", "geofence/orient.wanted"], apart := false, laid := [("geofence/mask.words", laid_geofence_mask_words), ("geofence/orient.wanted", laid_geofence_orient_wanted)], narrowed := true }
def OrientIsExactUptoSaid : Prop := orientIsExactUptoRow.holds Tryd.pinned (OpenSpec.upto orientIsExactSpec)

/-- 'geofencelaw06.OrientMasks', WHERE WHAT IT READS IS OF BULK AT MOST 1048576: true; the input reads as it did. -/
def orientMasksUptoRow : OpenClaim := { program := "ytfjanlfbnliokaadoor", sum := "68e87e87b6238670044f7a83e9283e763116277ac4315ca026755ce818282ee3", func := "geofence/geofencelaw06.OrientMasks", spec := "orientMasks", inPlace := ["math/bits.Sub64", "math/bits.Add64"], unfollowed := true, recurses := true, named := ["geofence/mask.words", "geofence/orient.wanted"], apart := false, laid := [("geofence/mask.words", laid_geofence_mask_words), ("geofence/orient.wanted", laid_geofence_orient_wanted)], narrowed := true }
def OrientMasksUptoSaid : Prop := orientMasksUptoRow.holds Tryd.pinned (OpenSpec.upto orientMasksSpec)

/-- 'geofencelaw06.OrientAlternates', WHERE WHAT IT READS IS OF BULK AT MOST 1048576: true; the input reads as it did. -/
def orientAlternatesUptoRow : OpenClaim := { program := "ytfjanlfbnliokaadoor", sum := "68e87e87b6238670044f7a83e9283e763116277ac4315ca026755ce818282ee3", func := "geofence/geofencelaw06.OrientAlternates", spec := "orientAlternates", inPlace := ["math/bits.Sub64", "math/bits.Add64"], unfollowed := true, recurses := true, named := ["geofence/mask.words", "geofence/orient.wanted"], apart := false, laid := [("geofence/mask.words", laid_geofence_mask_words), ("geofence/orient.wanted", laid_geofence_orient_wanted)], narrowed := true }
def OrientAlternatesUptoSaid : Prop := orientAlternatesUptoRow.holds Tryd.pinned (OpenSpec.upto orientAlternatesSpec)

/-- 'geofencelaw06.OrientTranslates', WHERE WHAT IT READS IS OF BULK AT MOST 1048576: true; the input reads as it did. -/
def orientTranslatesUptoRow : OpenClaim := { program := "ytfjanlfbnliokaadoor", sum := "68e87e87b6238670044f7a83e9283e763116277ac4315ca026755ce818282ee3", func := "geofence/geofencelaw06.OrientTranslates", spec := "orientTranslates", inPlace := ["math/bits.Sub64", "math/bits.Add64"], unfollowed := true, recurses := true, named := ["geofence/mask.words", "geofence/orient.wanted"], apart := false, laid := [("geofence/mask.words", laid_geofence_mask_words), ("geofence/orient.wanted", laid_geofence_orient_wanted)], narrowed := true }
def OrientTranslatesUptoSaid : Prop := orientTranslatesUptoRow.holds Tryd.pinned (OpenSpec.upto orientTranslatesSpec)

/-- 'geofencelaw06.OrientAddsUp', WHERE WHAT IT READS IS OF BULK AT MOST 1048576: true; the input reads as it did. -/
def orientAddsUpUptoRow : OpenClaim := { program := "ytfjanlfbnliokaadoor", sum := "68e87e87b6238670044f7a83e9283e763116277ac4315ca026755ce818282ee3", func := "geofence/geofencelaw06.OrientAddsUp", spec := "orientAddsUp", inPlace := ["math/bits.Sub64", "math/bits.Add64"], unfollowed := true, recurses := true, named := ["geofence/mask.words", "geofence/orient.wanted"], apart := false, laid := [("geofence/mask.words", laid_geofence_mask_words), ("geofence/orient.wanted", laid_geofence_orient_wanted)], narrowed := true }
def OrientAddsUpUptoSaid : Prop := orientAddsUpUptoRow.holds Tryd.pinned (OpenSpec.upto orientAddsUpSpec)

/-- 'geofencelaw06.OrientFits', WHERE WHAT IT READS IS OF BULK AT MOST 1048576: true; the input reads as it did. -/
def orientFitsUptoRow : OpenClaim := { program := "ytfjanlfbnliokaadoor", sum := "68e87e87b6238670044f7a83e9283e763116277ac4315ca026755ce818282ee3", func := "geofence/geofencelaw06.OrientFits", spec := "orientFits", inPlace := ["math/bits.Sub64", "math/bits.Add64"], unfollowed := true, recurses := true, named := ["geofence/mask.words", "geofence/orient.wanted"], apart := false, laid := [("geofence/mask.words", laid_geofence_mask_words), ("geofence/orient.wanted", laid_geofence_orient_wanted)], narrowed := true }
def OrientFitsUptoSaid : Prop := orientFitsUptoRow.holds Tryd.pinned (OpenSpec.upto orientFitsSpec)

/-- 'geofencelaw07.CircleIsExact', WHERE WHAT IT READS IS OF BULK AT MOST 1048576: true; the input reads as it did. -/
def circleIsExactUptoRow : OpenClaim := { program := "ytfjanlfbnliokaadoor", sum := "68e87e87b6238670044f7a83e9283e763116277ac4315ca026755ce818282ee3", func := "geofence/geofencelaw07.CircleIsExact", spec := "circleIsExact", inPlace := ["math/bits.Sub64", "math/bits.Add64"], unfollowed := true, recurses := true, named := ["geofence/mask.words"], apart := false, laid := [("geofence/mask.words", laid_geofence_mask_words)], narrowed := true }
def CircleIsExactUptoSaid : Prop := circleIsExactUptoRow.holds Tryd.pinned (OpenSpec.upto circleIsExactSpec)

/-- 'geofencelaw07.CircleSides', WHERE WHAT IT READS IS OF BULK AT MOST 1048576: true; the input reads as it did. -/
def circleSidesUptoRow : OpenClaim := { program := "ytfjanlfbnliokaadoor", sum := "68e87e87b6238670044f7a83e9283e763116277ac4315ca026755ce818282ee3", func := "geofence/geofencelaw07.CircleSides", spec := "circleSides", inPlace := ["math/bits.Sub64", "math/bits.Add64"], unfollowed := true, recurses := true, named := ["geofence/mask.words"], apart := false, laid := [("geofence/mask.words", laid_geofence_mask_words)], narrowed := true }
def CircleSidesUptoSaid : Prop := circleSidesUptoRow.holds Tryd.pinned (OpenSpec.upto circleSidesSpec)

/-- 'geofencelaw07.CircleAlternates', WHERE WHAT IT READS IS OF BULK AT MOST 1048576: true; the input reads as it did. -/
def circleAlternatesUptoRow : OpenClaim := { program := "ytfjanlfbnliokaadoor", sum := "68e87e87b6238670044f7a83e9283e763116277ac4315ca026755ce818282ee3", func := "geofence/geofencelaw07.CircleAlternates", spec := "circleAlternates", inPlace := ["math/bits.Sub64", "math/bits.Add64"], unfollowed := true, recurses := true, named := ["geofence/mask.words"], apart := false, laid := [("geofence/mask.words", laid_geofence_mask_words)], narrowed := true }
def CircleAlternatesUptoSaid : Prop := circleAlternatesUptoRow.holds Tryd.pinned (OpenSpec.upto circleAlternatesSpec)

/-- 'geofencelaw07.CircleTranslates', WHERE WHAT IT READS IS OF BULK AT MOST 1048576: true; the input reads as it did. -/
def circleTranslatesUptoRow : OpenClaim := { program := "ytfjanlfbnliokaadoor", sum := "68e87e87b6238670044f7a83e9283e763116277ac4315ca026755ce818282ee3", func := "geofence/geofencelaw07.CircleTranslates", spec := "circleTranslates", inPlace := ["math/bits.Sub64", "math/bits.Add64"], unfollowed := true, recurses := true, named := ["geofence/mask.words"], apart := false, laid := [("geofence/mask.words", laid_geofence_mask_words)], narrowed := true }
def CircleTranslatesUptoSaid : Prop := circleTranslatesUptoRow.holds Tryd.pinned (OpenSpec.upto circleTranslatesSpec)

/-- 'geofencelaw07.CircleCorners', WHERE WHAT IT READS IS OF BULK AT MOST 1048576: true; the input reads as it did. -/
def circleCornersUptoRow : OpenClaim := { program := "ytfjanlfbnliokaadoor", sum := "68e87e87b6238670044f7a83e9283e763116277ac4315ca026755ce818282ee3", func := "geofence/geofencelaw07.CircleCorners", spec := "circleCorners", inPlace := ["math/bits.Sub64", "math/bits.Add64"], unfollowed := true, recurses := true, named := ["geofence/mask.words"], apart := false, laid := [("geofence/mask.words", laid_geofence_mask_words)], narrowed := true }
def CircleCornersUptoSaid : Prop := circleCornersUptoRow.holds Tryd.pinned (OpenSpec.upto circleCornersSpec)

/-- 'geofencelaw07.CircleOnItself', WHERE WHAT IT READS IS OF BULK AT MOST 1048576: true; the input reads as it did. -/
def circleOnItselfUptoRow : OpenClaim := { program := "ytfjanlfbnliokaadoor", sum := "68e87e87b6238670044f7a83e9283e763116277ac4315ca026755ce818282ee3", func := "geofence/geofencelaw07.CircleOnItself", spec := "circleOnItself", inPlace := ["math/bits.Sub64", "math/bits.Add64"], unfollowed := true, recurses := true, named := ["geofence/mask.words"], apart := false, laid := [("geofence/mask.words", laid_geofence_mask_words)], narrowed := true }
def CircleOnItselfUptoSaid : Prop := circleOnItselfUptoRow.holds Tryd.pinned (OpenSpec.upto circleOnItselfSpec)

end Rows
end Go.Proofs.YtfjanlfbnliokaaDoor
