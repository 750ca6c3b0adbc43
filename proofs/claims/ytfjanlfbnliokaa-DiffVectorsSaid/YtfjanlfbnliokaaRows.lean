/-
  No cell of these rows narrows 'for every input' (looked for: loops, veiled, ifaces, maps, wideKeys, modest, calm, conditions, laid).
  DERIVED. THE GIVEN ROWS OF THIS SEAT. 6 by the template 'for every input the law returns true; each argument reads behind the call as it read before'; 0 by the template 'total and deterministic' (their statements: YtfjanlfbnliokaaTotals.lean).
  GIVEN WITH THE SEED: the statements are not yours to turn. If you find one false, say at which input.
  Laid BY PROGRAM, IN A SANDBOX (cutbox-rows.mjs): the forced cells as the released guide's own fill.sh prints them over the translation 7b65d49dd5564a05… (all of the seat's roots in one cut). By AI agents, Wed Nov 11 2026. No macro, syntax, notation, axiom, sorry.
-/
import Derived.Test.YtfjanlfbnliokaaChecked
import GoSem.Claim
import GoSem.ClaimJoined
import GoSem.ClaimMapViews
import Derived.JoinedTies
import Derived.KernelRfl
namespace Go.Proofs.Ytfjanlfbnliokaa
/- THE CELL 'sum', in the pinned program and in every row, IS THE sha256 OF THE DUMP (.gsa) THAT YtfjanlfbnliokaaProg.lean LOADS. Nothing in Lean hashes anything: it is a label: what it is worth is what the hold of that sum in a sandbox is worth. -/
noncomputable def Try.pinned : Pinned := { name := "ytfjanlfbnliokaa", sum := "7b65d49dd5564a05ac0a17d1c1375213c0e2aa578cba7804bc1826b79dd53ff9", checked := Try.checked }
namespace Rows
def none {H : Type} : Left H := { results := [], args := [] }

/-- 'geofencelaw05.DiffCoordinates': WHATEVER THE INPUT: true; the input reads as it did. -/
def diffCoordinatesSpec : ChangeSpec := { name := "diffCoordinates", fn := fun _ => fun
  | [d1, d2] => { results := [.lit (.bool true)], args := [d1, d2] }
  | _ => none }
def diffCoordinatesRow : OpenClaim := { program := "ytfjanlfbnliokaa", sum := "7b65d49dd5564a05ac0a17d1c1375213c0e2aa578cba7804bc1826b79dd53ff9", func := "geofence/geofencelaw05.DiffCoordinates", spec := "diffCoordinates", inPlace := ["math/bits.Sub64", "math/bits.Add64"], unfollowed := true, recurses := true, apart := false }
def DiffCoordinatesSaid : Prop := diffCoordinatesRow.holds Try.pinned (OpenSpec.ofChange diffCoordinatesSpec)

/-- ITS FALSE NEIGHBOUR: 'it returns false'. Refute it at one input. -/
def diffCoordinatesWrong : ChangeSpec := { name := "diffCoordinates", fn := fun _ => fun
  | [d1, d2] => { results := [.lit (.bool false)], args := [d1, d2] }
  | _ => none }
def DiffCoordinatesWrongFalsely : Prop := diffCoordinatesRow.holds Try.pinned (OpenSpec.ofChange diffCoordinatesWrong)

/-- 'geofencelaw05.DiffProducts': WHATEVER THE INPUT: true; the input reads as it did. -/
def diffProductsSpec : ChangeSpec := { name := "diffProducts", fn := fun _ => fun
  | [d1, d2, d3] => { results := [.lit (.bool true)], args := [d1, d2, d3] }
  | _ => none }
def diffProductsRow : OpenClaim := { program := "ytfjanlfbnliokaa", sum := "7b65d49dd5564a05ac0a17d1c1375213c0e2aa578cba7804bc1826b79dd53ff9", func := "geofence/geofencelaw05.DiffProducts", spec := "diffProducts", inPlace := ["math/bits.Sub64", "math/bits.Add64"], unfollowed := true, recurses := true, apart := false }
def DiffProductsSaid : Prop := diffProductsRow.holds Try.pinned (OpenSpec.ofChange diffProductsSpec)

/-- ITS FALSE NEIGHBOUR: 'it returns false'. Refute it at one input. -/
def diffProductsWrong : ChangeSpec := { name := "diffProducts", fn := fun _ => fun
  | [d1, d2, d3] => { results := [.lit (.bool false)], args := [d1, d2, d3] }
  | _ => none }
def DiffProductsWrongFalsely : Prop := diffProductsRow.holds Try.pinned (OpenSpec.ofChange diffProductsWrong)

/-- 'geofencelaw05.DiffVectors': WHATEVER THE INPUT: true; the input reads as it did. -/
def diffVectorsSpec : ChangeSpec := { name := "diffVectors", fn := fun _ => fun
  | [d1, d2] => { results := [.lit (.bool true)], args := [d1, d2] }
  | _ => none }
def diffVectorsRow : OpenClaim := { program := "ytfjanlfbnliokaa", sum := "7b65d49dd5564a05ac0a17d1c1375213c0e2aa578cba7804bc1826b79dd53ff9", func := "geofence/geofencelaw05.DiffVectors", spec := "diffVectors", inPlace := ["math/bits.Sub64", "math/bits.Add64"], unfollowed := true, recurses := true, apart := false }
def DiffVectorsSaid : Prop := diffVectorsRow.holds Try.pinned (OpenSpec.ofChange diffVectorsSpec)

/-- ITS FALSE NEIGHBOUR: 'it returns false'. Refute it at one input. -/
def diffVectorsWrong : ChangeSpec := { name := "diffVectors", fn := fun _ => fun
  | [d1, d2] => { results := [.lit (.bool false)], args := [d1, d2] }
  | _ => none }
def DiffVectorsWrongFalsely : Prop := diffVectorsRow.holds Try.pinned (OpenSpec.ofChange diffVectorsWrong)

/-- 'geofencelaw05.DiffSymmetries': WHATEVER THE INPUT: true; the input reads as it did. -/
def diffSymmetriesSpec : ChangeSpec := { name := "diffSymmetries", fn := fun _ => fun
  | [d1, d2, d3] => { results := [.lit (.bool true)], args := [d1, d2, d3] }
  | _ => none }
def diffSymmetriesRow : OpenClaim := { program := "ytfjanlfbnliokaa", sum := "7b65d49dd5564a05ac0a17d1c1375213c0e2aa578cba7804bc1826b79dd53ff9", func := "geofence/geofencelaw05.DiffSymmetries", spec := "diffSymmetries", inPlace := ["math/bits.Sub64", "math/bits.Add64"], unfollowed := true, recurses := true, apart := false }
def DiffSymmetriesSaid : Prop := diffSymmetriesRow.holds Try.pinned (OpenSpec.ofChange diffSymmetriesSpec)

/-- ITS FALSE NEIGHBOUR: 'it returns false'. Refute it at one input. -/
def diffSymmetriesWrong : ChangeSpec := { name := "diffSymmetries", fn := fun _ => fun
  | [d1, d2, d3] => { results := [.lit (.bool false)], args := [d1, d2, d3] }
  | _ => none }
def DiffSymmetriesWrongFalsely : Prop := diffSymmetriesRow.holds Try.pinned (OpenSpec.ofChange diffSymmetriesWrong)

/-- 'geofencelaw05.DiffLagrange': WHATEVER THE INPUT: true; the input reads as it did. -/
def diffLagrangeSpec : ChangeSpec := { name := "diffLagrange", fn := fun _ => fun
  | [d1, d2, d3] => { results := [.lit (.bool true)], args := [d1, d2, d3] }
  | _ => none }
def diffLagrangeRow : OpenClaim := { program := "ytfjanlfbnliokaa", sum := "7b65d49dd5564a05ac0a17d1c1375213c0e2aa578cba7804bc1826b79dd53ff9", func := "geofence/geofencelaw05.DiffLagrange", spec := "diffLagrange", inPlace := ["math/bits.Sub64", "math/bits.Add64"], unfollowed := true, recurses := true, apart := false }
def DiffLagrangeSaid : Prop := diffLagrangeRow.holds Try.pinned (OpenSpec.ofChange diffLagrangeSpec)

/-- ITS FALSE NEIGHBOUR: 'it returns false'. Refute it at one input. -/
def diffLagrangeWrong : ChangeSpec := { name := "diffLagrange", fn := fun _ => fun
  | [d1, d2, d3] => { results := [.lit (.bool false)], args := [d1, d2, d3] }
  | _ => none }
def DiffLagrangeWrongFalsely : Prop := diffLagrangeRow.holds Try.pinned (OpenSpec.ofChange diffLagrangeWrong)

/-- 'geofencelaw05.DiffTriangle': WHATEVER THE INPUT: true; the input reads as it did. -/
def diffTriangleSpec : ChangeSpec := { name := "diffTriangle", fn := fun _ => fun
  | [d1, d2] => { results := [.lit (.bool true)], args := [d1, d2] }
  | _ => none }
def diffTriangleRow : OpenClaim := { program := "ytfjanlfbnliokaa", sum := "7b65d49dd5564a05ac0a17d1c1375213c0e2aa578cba7804bc1826b79dd53ff9", func := "geofence/geofencelaw05.DiffTriangle", spec := "diffTriangle", inPlace := ["math/bits.Sub64", "math/bits.Add64"], unfollowed := true, recurses := true, apart := false }
def DiffTriangleSaid : Prop := diffTriangleRow.holds Try.pinned (OpenSpec.ofChange diffTriangleSpec)

/-- ITS FALSE NEIGHBOUR: 'it returns false'. Refute it at one input. -/
def diffTriangleWrong : ChangeSpec := { name := "diffTriangle", fn := fun _ => fun
  | [d1, d2] => { results := [.lit (.bool false)], args := [d1, d2] }
  | _ => none }
def DiffTriangleWrongFalsely : Prop := diffTriangleRow.holds Try.pinned (OpenSpec.ofChange diffTriangleWrong)

/- THE SECOND FORM. 'bulk': how many values and letters a reading holds, each counted each time it is reached (what is shared counts as often as it is met; a slice's spare places count too). A statement '..UptoSaid' is the law's where the arguments, and the package variables that the reading takes, are together of bulk at most 1048576: NARROWER than '..Said'. Prove '..Said' where nothing that the law and all that it calls make is longer than what came in: it says more and counts as full. Else prove '..UptoSaid'. A law counts once. -/
mutual
def uptoBulk {H : Type} : DataW H → Nat
  | .lit (.string bytes) => bytes.length + 1
  | .lit _ => 1
  | .nil => 1
  | .ptr d => uptoBulk d + 1
  | .slice elems spare => uptoBulkAll elems + uptoBulkAll spare + 1
  | .agg parts => uptoBulkAll parts + 1
  | .iface _ d => uptoBulk d + 1
  | .map entries => uptoBulkEntries entries + 1
  | .held _ => 1
def uptoBulkAll {H : Type} : List (DataW H) → Nat
  | [] => 0
  | d :: r => uptoBulk d + uptoBulkAll r
def uptoBulkEntries {H : Type} : List (Lit × DataW H) → Nat
  | [] => 0
  | x :: r => uptoBulkEntry x + uptoBulkEntries r
def uptoBulkEntry {H : Type} : Lit × DataW H → Nat
  | (.string bytes, d) => bytes.length + uptoBulk d + 1
  | (_, d) => uptoBulk d + 1
 end
def uptoSmall : (H : Type) → List (DataW H) → Bool := fun _ ds => decide (uptoBulkAll ds ≤ 1048576)
def OpenSpec.upto (s : _root_.Go.ChangeSpec) : _root_.Go.OpenSpec := { _root_.Go.OpenSpec.ofChange s with cond := some uptoSmall }

/-- 'geofencelaw05.DiffCoordinates', WHERE WHAT IT READS IS OF BULK AT MOST 1048576: true; the input reads as it did. -/
def diffCoordinatesUptoRow : OpenClaim := { program := "ytfjanlfbnliokaa", sum := "7b65d49dd5564a05ac0a17d1c1375213c0e2aa578cba7804bc1826b79dd53ff9", func := "geofence/geofencelaw05.DiffCoordinates", spec := "diffCoordinates", inPlace := ["math/bits.Sub64", "math/bits.Add64"], unfollowed := true, recurses := true, apart := false, narrowed := true }
def DiffCoordinatesUptoSaid : Prop := diffCoordinatesUptoRow.holds Try.pinned (OpenSpec.upto diffCoordinatesSpec)

/-- 'geofencelaw05.DiffProducts', WHERE WHAT IT READS IS OF BULK AT MOST 1048576: true; the input reads as it did. -/
def diffProductsUptoRow : OpenClaim := { program := "ytfjanlfbnliokaa", sum := "7b65d49dd5564a05ac0a17d1c1375213c0e2aa578cba7804bc1826b79dd53ff9", func := "geofence/geofencelaw05.DiffProducts", spec := "diffProducts", inPlace := ["math/bits.Sub64", "math/bits.Add64"], unfollowed := true, recurses := true, apart := false, narrowed := true }
def DiffProductsUptoSaid : Prop := diffProductsUptoRow.holds Try.pinned (OpenSpec.upto diffProductsSpec)

/-- 'geofencelaw05.DiffVectors', WHERE WHAT IT READS IS OF BULK AT MOST 1048576: true; the input reads as it did. -/
def diffVectorsUptoRow : OpenClaim := { program := "ytfjanlfbnliokaa", sum := "7b65d49dd5564a05ac0a17d1c1375213c0e2aa578cba7804bc1826b79dd53ff9", func := "geofence/geofencelaw05.DiffVectors", spec := "diffVectors", inPlace := ["math/bits.Sub64", "math/bits.Add64"], unfollowed := true, recurses := true, apart := false, narrowed := true }
def DiffVectorsUptoSaid : Prop := diffVectorsUptoRow.holds Try.pinned (OpenSpec.upto diffVectorsSpec)

/-- 'geofencelaw05.DiffSymmetries', WHERE WHAT IT READS IS OF BULK AT MOST 1048576: true; the input reads as it did. -/
def diffSymmetriesUptoRow : OpenClaim := { program := "ytfjanlfbnliokaa", sum := "7b65d49dd5564a05ac0a17d1c1375213c0e2aa578cba7804bc1826b79dd53ff9", func := "geofence/geofencelaw05.DiffSymmetries", spec := "diffSymmetries", inPlace := ["math/bits.Sub64", "math/bits.Add64"], unfollowed := true, recurses := true, apart := false, narrowed := true }
def DiffSymmetriesUptoSaid : Prop := diffSymmetriesUptoRow.holds Try.pinned (OpenSpec.upto diffSymmetriesSpec)

/-- 'geofencelaw05.DiffLagrange', WHERE WHAT IT READS IS OF BULK AT MOST 1048576: true; the input reads as it did. -/
def diffLagrangeUptoRow : OpenClaim := { program := "ytfjanlfbnliokaa", sum := "7b65d49dd5564a05ac0a17d1c1375213c0e2aa578cba7804bc1826b79dd53ff9", func := "geofence/geofencelaw05.DiffLagrange", spec := "diffLagrange", inPlace := ["math/bits.Sub64", "math/bits.Add64"], unfollowed := true, recurses := true, apart := false, narrowed := true }
def DiffLagrangeUptoSaid : Prop := diffLagrangeUptoRow.holds Try.pinned (OpenSpec.upto diffLagrangeSpec)

/-- 'geofencelaw05.DiffTriangle', WHERE WHAT IT READS IS OF BULK AT MOST 1048576: true; the input reads as it did. -/
def diffTriangleUptoRow : OpenClaim := { program := "ytfjanlfbnliokaa", sum := "7b65d49dd5564a05ac0a17d1c1375213c0e2aa578cba7804bc1826b79dd53ff9", func := "geofence/geofencelaw05.DiffTriangle", spec := "diffTriangle", inPlace := ["math/bits.Sub64", "math/bits.Add64"], unfollowed := true, recurses := true, apart := false, narrowed := true }
def DiffTriangleUptoSaid : Prop := diffTriangleUptoRow.holds Try.pinned (OpenSpec.upto diffTriangleSpec)

end Rows
end Go.Proofs.Ytfjanlfbnliokaa
