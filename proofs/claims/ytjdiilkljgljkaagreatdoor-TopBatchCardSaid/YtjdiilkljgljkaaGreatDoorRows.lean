/-
  NARROWER THAN 'FOR EVERY INPUT', by the rows' own cells (each row's printed sentence says how): TopOrient: laid · TopCircle: laid · TopFence: laid · TopBatch: laid · TopSmall: laid.
  DERIVED. THE GIVEN ROWS OF THIS SEAT. 5 by the template 'for every input the law returns true; each argument reads behind the call as it read before'; 0 by the template 'total and deterministic' (their statements: YtjdiilkljgljkaaGreatDoorTotals.lean).
  GIVEN WITH THE SEED: the statements are not yours to turn. If you find one false, say at which input.
  Laid BY PROGRAM, IN A SANDBOX (cutbox-rows.mjs): the forced cells as the released guide's own fill.sh prints them over the translation 0b494052443ee976… (all of the seat's roots in one cut). By AI agents, Wed Nov 11 2026. No macro, syntax, notation, axiom, sorry.
-/
import Derived.Test.YtjdiilkljgljkaaGreatDoorChecked
import GoSem.Claim
import GoSem.ClaimJoined
import GoSem.ClaimMapViews
import Derived.JoinedTies
import Derived.KernelRfl
namespace Go.Proofs.YtjdiilkljgljkaaGreatDoor
/- THE CELL 'sum', in the pinned program and in every row, IS THE sha256 OF THE DUMP (.gsa) THAT YtjdiilkljgljkaaGreatDoorProg.lean LOADS. Nothing in Lean hashes anything: it is a label: what it is worth is what the hold of that sum in a sandbox is worth. -/
noncomputable def Tryz.pinned : Pinned := { name := "ytjdiilkljgljkaagreatdoor", sum := "0b494052443ee9764ee9144e594facf2ff538b02df73720f9e1673888aa15e5a", checked := Tryz.checked }
namespace Rows
def none {H : Type} : Left H := { results := [], args := [] }

/- WHAT THE LISTED PACKAGE-LEVEL VARIABLES READ AS WHEN THE CALL BEGINS. Each datum BY PROGRAM (the guide's laid-datum.mjs) off the statement by which the dump's own 'gosem.cut.vars' lays the variable. In a bare row this is a premise. The card (YtjdiilkljgljkaaGreatDoorCards.lean) ties it to the program's text. -/
def laid_geofence_mask_words {H : Type} : DataW H := .agg [.lit (.int .u64 9223372036854775808), .lit (.int .u64 18446744073709551615)]
def laid_geofence_header_fixed {H : Type} : DataW H := .agg [.lit (.int .i64 0), .lit (.int .i64 3), .lit (.int .i64 4), .lit (.int .i64 1), .lit (.int .i64 1), .lit (.int .i64 0)]

/-- 'geofencetop.TopOrient': WHATEVER THE INPUT: true; the input reads as it did. -/
def topOrientSpec : ChangeSpec := { name := "topOrient", fn := fun _ => fun
  | [d1, d2, d3] => { results := [.lit (.bool true)], args := [d1, d2, d3] }
  | _ => none }
def topOrientRow : OpenClaim := { program := "ytjdiilkljgljkaagreatdoor", sum := "0b494052443ee9764ee9144e594facf2ff538b02df73720f9e1673888aa15e5a", func := "geofence/geofencetop.TopOrient", spec := "topOrient", inPlace := ["math/bits.Sub64", "math/bits.Add64"], unfollowed := true, recurses := true, named := ["geofence/header.fixed", "geofence/mask.words"], apart := false, laid := [("geofence/mask.words", laid_geofence_mask_words), ("geofence/header.fixed", laid_geofence_header_fixed)] }
def TopOrientSaid : Prop := topOrientRow.holds Tryz.pinned (OpenSpec.ofChange topOrientSpec)

/-- ITS FALSE NEIGHBOUR: 'it returns false'. Refute it at one input. -/
def topOrientWrong : ChangeSpec := { name := "topOrient", fn := fun _ => fun
  | [d1, d2, d3] => { results := [.lit (.bool false)], args := [d1, d2, d3] }
  | _ => none }
def TopOrientWrongFalsely : Prop := topOrientRow.holds Tryz.pinned (OpenSpec.ofChange topOrientWrong)

/-- 'geofencetop.TopCircle': WHATEVER THE INPUT: true; the input reads as it did. -/
def topCircleSpec : ChangeSpec := { name := "topCircle", fn := fun _ => fun
  | [d] => { results := [.lit (.bool true)], args := [d] }
  | _ => none }
def topCircleRow : OpenClaim := { program := "ytjdiilkljgljkaagreatdoor", sum := "0b494052443ee9764ee9144e594facf2ff538b02df73720f9e1673888aa15e5a", func := "geofence/geofencetop.TopCircle", spec := "topCircle", inPlace := ["math/bits.Sub64", "math/bits.Add64"], unfollowed := true, recurses := true, named := ["geofence/header.fixed", "geofence/mask.words"], apart := false, laid := [("geofence/mask.words", laid_geofence_mask_words), ("geofence/header.fixed", laid_geofence_header_fixed)] }
def TopCircleSaid : Prop := topCircleRow.holds Tryz.pinned (OpenSpec.ofChange topCircleSpec)

/-- ITS FALSE NEIGHBOUR: 'it returns false'. Refute it at one input. -/
def topCircleWrong : ChangeSpec := { name := "topCircle", fn := fun _ => fun
  | [d] => { results := [.lit (.bool false)], args := [d] }
  | _ => none }
def TopCircleWrongFalsely : Prop := topCircleRow.holds Tryz.pinned (OpenSpec.ofChange topCircleWrong)

/-- 'geofencetop.TopFence': WHATEVER THE INPUT: true; the input reads as it did. -/
def topFenceSpec : ChangeSpec := { name := "topFence", fn := fun _ => fun
  | [d1, d2] => { results := [.lit (.bool true)], args := [d1, d2] }
  | _ => none }
def topFenceRow : OpenClaim := { program := "ytjdiilkljgljkaagreatdoor", sum := "0b494052443ee9764ee9144e594facf2ff538b02df73720f9e1673888aa15e5a", func := "geofence/geofencetop.TopFence", spec := "topFence", inPlace := ["math/bits.Sub64", "math/bits.Add64"], unfollowed := true, recurses := true, named := ["geofence/header.fixed", "geofence/mask.words"], apart := false, laid := [("geofence/mask.words", laid_geofence_mask_words), ("geofence/header.fixed", laid_geofence_header_fixed)] }
def TopFenceSaid : Prop := topFenceRow.holds Tryz.pinned (OpenSpec.ofChange topFenceSpec)

/-- ITS FALSE NEIGHBOUR: 'it returns false'. Refute it at one input. -/
def topFenceWrong : ChangeSpec := { name := "topFence", fn := fun _ => fun
  | [d1, d2] => { results := [.lit (.bool false)], args := [d1, d2] }
  | _ => none }
def TopFenceWrongFalsely : Prop := topFenceRow.holds Tryz.pinned (OpenSpec.ofChange topFenceWrong)

/-- 'geofencetop.TopBatch': WHATEVER THE INPUT: true; the input reads as it did. -/
def topBatchSpec : ChangeSpec := { name := "topBatch", fn := fun _ => fun
  | [d1, d2] => { results := [.lit (.bool true)], args := [d1, d2] }
  | _ => none }
def topBatchRow : OpenClaim := { program := "ytjdiilkljgljkaagreatdoor", sum := "0b494052443ee9764ee9144e594facf2ff538b02df73720f9e1673888aa15e5a", func := "geofence/geofencetop.TopBatch", spec := "topBatch", inPlace := ["math/bits.Sub64", "math/bits.Add64"], unfollowed := true, recurses := true, named := ["geofence/header.fixed", "geofence/mask.words"], apart := false, laid := [("geofence/mask.words", laid_geofence_mask_words), ("geofence/header.fixed", laid_geofence_header_fixed)] }
def TopBatchSaid : Prop := topBatchRow.holds Tryz.pinned (OpenSpec.ofChange topBatchSpec)

/-- ITS FALSE NEIGHBOUR: 'it returns false'. Refute it at one input. -/
def topBatchWrong : ChangeSpec := { name := "topBatch", fn := fun _ => fun
  | [d1, d2] => { results := [.lit (.bool false)], args := [d1, d2] }
  | _ => none }
def TopBatchWrongFalsely : Prop := topBatchRow.holds Tryz.pinned (OpenSpec.ofChange topBatchWrong)

/-- 'geofencetop.TopSmall': WHATEVER THE INPUT: true; the input reads as it did. -/
def topSmallSpec : ChangeSpec := { name := "topSmall", fn := fun _ => fun
  | [d1, d2, d3] => { results := [.lit (.bool true)], args := [d1, d2, d3] }
  | _ => none }
def topSmallRow : OpenClaim := { program := "ytjdiilkljgljkaagreatdoor", sum := "0b494052443ee9764ee9144e594facf2ff538b02df73720f9e1673888aa15e5a", func := "geofence/geofencetop.TopSmall", spec := "topSmall", inPlace := ["math/bits.Sub64", "math/bits.Add64"], unfollowed := true, recurses := true, named := ["geofence/header.fixed", "geofence/mask.words"], apart := false, laid := [("geofence/mask.words", laid_geofence_mask_words), ("geofence/header.fixed", laid_geofence_header_fixed)] }
def TopSmallSaid : Prop := topSmallRow.holds Tryz.pinned (OpenSpec.ofChange topSmallSpec)

/-- ITS FALSE NEIGHBOUR: 'it returns false'. Refute it at one input. -/
def topSmallWrong : ChangeSpec := { name := "topSmall", fn := fun _ => fun
  | [d1, d2, d3] => { results := [.lit (.bool false)], args := [d1, d2, d3] }
  | _ => none }
def TopSmallWrongFalsely : Prop := topSmallRow.holds Tryz.pinned (OpenSpec.ofChange topSmallWrong)

/- THE SECOND FORM. 'bulk': how many values and letters a reading holds, each counted each time it is reached (what is shared counts as often as it is met; a slice's spare places count too). A statement '..UptoSaid' is the law's where the arguments, and the package variables that the reading takes, are together of bulk at most 1048576: NARROWER than '..Said'. Prove '..Said' where nothing that the law and all that it calls make is longer than what came in: it says more and counts as full. Else prove '..UptoSaid'. A law counts once. -/
mutual
def uptoBulk {H : Type} : DataW H → Nat
  | .lit (.string bytes) => bytes.length + 1
  | .lit _ => 1
  | .nil => 1
  | .ptr d => uptoBulk d + 1
  | .slice elems spare => uptoBulkAll elems + uptoBulkAll spare + 1
  | .agg parts => uptoBulkAll parts + 1
  | .iface _ d => uptoBulk d + 1
  | .map entries => uptoBulkEntries entries + 1
  | .held _ => 1
def uptoBulkAll {H : Type} : List (DataW H) → Nat
  | [] => 0
  | d :: r => uptoBulk d + uptoBulkAll r
def uptoBulkEntries {H : Type} : List (Lit × DataW H) → Nat
  | [] => 0
  | x :: r => uptoBulkEntry x + uptoBulkEntries r
def uptoBulkEntry {H : Type} : Lit × DataW H → Nat
  | (.string bytes, d) => bytes.length + uptoBulk d + 1
  | (_, d) => uptoBulk d + 1
 end
def uptoSmall : (H : Type) → List (DataW H) → Bool := fun _ ds => decide (uptoBulkAll ds ≤ 1048576)
def OpenSpec.upto (s : _root_.Go.ChangeSpec) : _root_.Go.OpenSpec := { _root_.Go.OpenSpec.ofChange s with cond := some uptoSmall }

/-- 'geofencetop.TopOrient', WHERE WHAT IT READS IS OF BULK AT MOST 1048576: true; the input reads as it did. -/
def topOrientUptoRow : OpenClaim := { program := "ytjdiilkljgljkaagreatdoor", sum := "0b494052443ee9764ee9144e594facf2ff538b02df73720f9e1673888aa15e5a", func := "geofence/geofencetop.TopOrient", spec := "topOrient", inPlace := ["math/bits.Sub64", "math/bits.Add64"], unfollowed := true, recurses := true, named := ["geofence/header.fixed", "geofence/mask.words"], apart := false, laid := [("geofence/mask.words", laid_geofence_mask_words), ("geofence/header.fixed", laid_geofence_header_fixed)], narrowed := true }
def TopOrientUptoSaid : Prop := topOrientUptoRow.holds Tryz.pinned (OpenSpec.upto topOrientSpec)

/-- 'geofencetop.TopCircle', WHERE WHAT IT READS IS OF BULK AT MOST 1048576: true; the input reads as it did. -/
def topCircleUptoRow : OpenClaim := { program := "ytjdiilkljgljkaagreatdoor", sum := "0b494052443ee9764ee9144e594facf2ff538b02df73720f9e1673888aa15e5a", func := "geofence/geofencetop.TopCircle", spec := "topCircle", inPlace := ["math/bits.Sub64", "math/bits.Add64"], unfollowed := true, recurses := true, named := ["geofence/header.fixed", "geofence/mask.words"], apart := false, laid := [("geofence/mask.words", laid_geofence_mask_words), ("geofence/header.fixed", laid_geofence_header_fixed)], narrowed := true }
def TopCircleUptoSaid : Prop := topCircleUptoRow.holds Tryz.pinned (OpenSpec.upto topCircleSpec)

/-- 'geofencetop.TopFence', WHERE WHAT IT READS IS OF BULK AT MOST 1048576: true; the input reads as it did. -/
def topFenceUptoRow : OpenClaim := { program := "ytjdiilkljgljkaagreatdoor", sum := "0b494052443ee9764ee9144e594facf2ff538b02df73720f9e1673888aa15e5a", func := "geofence/geofencetop.TopFence", spec := "topFence", inPlace := ["math/bits.Sub64", "math/bits.Add64"], unfollowed := true, recurses := true, named := ["geofence/header.fixed", "geofence/mask.words"], apart := false, laid := [("geofence/mask.words", laid_geofence_mask_words), ("geofence/header.fixed", laid_geofence_header_fixed)], narrowed := true }
def TopFenceUptoSaid : Prop := topFenceUptoRow.holds Tryz.pinned (OpenSpec.upto topFenceSpec)

/-- 'geofencetop.TopBatch', WHERE WHAT IT READS IS OF BULK AT MOST 1048576: true; the input reads as it did. -/
def topBatchUptoRow : OpenClaim := { program := "ytjdiilkljgljkaagreatdoor", sum := "0b494052443ee9764ee9144e594facf2ff538b02df73720f9e1673888aa15e5a", func := "geofence/geofencetop.TopBatch", spec := "topBatch", inPlace := ["math/bits.Sub64", "math/bits.Add64"], unfollowed := true, recurses := true, named := ["geofence/header.fixed", "geofence/mask.words"], apart := false, laid := [("geofence/mask.words", laid_geofence_mask_words), ("geofence/header.fixed", laid_geofence_header_fixed)], narrowed := true }
def TopBatchUptoSaid : Prop := topBatchUptoRow.holds Tryz.pinned (OpenSpec.upto topBatchSpec)

/-- 'geofencetop.TopSmall', WHERE WHAT IT READS IS OF BULK AT MOST 1048576: true; the input reads as it did. -/
def topSmallUptoRow : OpenClaim := { program := "ytjdiilkljgljkaagreatdoor", sum := "0b494052443ee9764ee9144e594facf2ff538b02df73720f9e1673888aa15e5a", func := "geofence/geofencetop.TopSmall", spec := "topSmall", inPlace := ["math/bits.Sub64", "math/bits.Add64"], unfollowed := true, recurses := true, named := ["geofence/header.fixed", "geofence/mask.words"], apart := false, laid := [("geofence/mask.words", laid_geofence_mask_words), ("geofence/header.fixed", laid_geofence_header_fixed)], narrowed := true }
def TopSmallUptoSaid : Prop := topSmallUptoRow.holds Tryz.pinned (OpenSpec.upto topSmallSpec)

end Rows
end Go.Proofs.YtjdiilkljgljkaaGreatDoor
