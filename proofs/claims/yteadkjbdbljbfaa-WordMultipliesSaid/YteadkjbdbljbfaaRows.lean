/-
  No cell of these rows narrows 'for every input' (looked for: loops, veiled, ifaces, maps, wideKeys, modest, calm, conditions, laid).
  DERIVED. THE GIVEN ROWS OF THIS SEAT. 6 by the template 'for every input the law returns true; each argument reads behind the call as it read before'; 0 by the template 'total and deterministic' (their statements: YteadkjbdbljbfaaTotals.lean).
  GIVEN WITH THE SEED: the statements are not yours to turn. If you find one false, say at which input.
  Laid BY PROGRAM, IN A SANDBOX (cutbox-rows.mjs): the forced cells as the released guide's own fill.sh prints them over the translation b3d9ad8fc6e54ebd… (all of the seat's roots in one cut). By AI agents, Wed Nov 11 2026. No macro, syntax, notation, axiom, sorry.
-/
import Derived.Test.YteadkjbdbljbfaaChecked
import GoSem.Claim
import GoSem.ClaimJoined
import GoSem.ClaimMapViews
import Derived.JoinedTies
import Derived.KernelRfl
namespace Go.Proofs.Yteadkjbdbljbfaa
/- THE CELL 'sum', in the pinned program and in every row, IS THE sha256 OF THE DUMP (.gsa) THAT YteadkjbdbljbfaaProg.lean LOADS. Nothing in Lean hashes anything: it is a label: what it is worth is what the hold of that sum in a sandbox is worth. -/
noncomputable def Try.pinned : Pinned := { name := "yteadkjbdbljbfaa", sum := "b3d9ad8fc6e54ebdd8f29e48722ab3300f9885eb3b216c018701ea657c646832", checked := Try.checked }
namespace Rows
def none {H : Type} : Left H := { results := [], args := [] }

/-- 'geofencelaw02.WordMultipliesSigned': WHATEVER THE INPUT: true; the input reads as it did. -/
def wordMultipliesSignedSpec : ChangeSpec := { name := "wordMultipliesSigned", fn := fun _ => fun
  | [d1, d2] => { results := [.lit (.bool true)], args := [d1, d2] }
  | _ => none }
def wordMultipliesSignedRow : OpenClaim := { program := "yteadkjbdbljbfaa", sum := "b3d9ad8fc6e54ebdd8f29e48722ab3300f9885eb3b216c018701ea657c646832", func := "geofence/geofencelaw02.WordMultipliesSigned", spec := "wordMultipliesSigned", inPlace := ["math/bits.Add64"], unfollowed := true, recurses := true, apart := false }
def WordMultipliesSignedSaid : Prop := wordMultipliesSignedRow.holds Try.pinned (OpenSpec.ofChange wordMultipliesSignedSpec)

/-- ITS FALSE NEIGHBOUR: 'it returns false'. Refute it at one input. -/
def wordMultipliesSignedWrong : ChangeSpec := { name := "wordMultipliesSigned", fn := fun _ => fun
  | [d1, d2] => { results := [.lit (.bool false)], args := [d1, d2] }
  | _ => none }
def WordMultipliesSignedWrongFalsely : Prop := wordMultipliesSignedRow.holds Try.pinned (OpenSpec.ofChange wordMultipliesSignedWrong)

/-- 'geofencelaw02.WordSquares': WHATEVER THE INPUT: true; the input reads as it did. -/
def wordSquaresSpec : ChangeSpec := { name := "wordSquares", fn := fun _ => fun
  | [d] => { results := [.lit (.bool true)], args := [d] }
  | _ => none }
def wordSquaresRow : OpenClaim := { program := "yteadkjbdbljbfaa", sum := "b3d9ad8fc6e54ebdd8f29e48722ab3300f9885eb3b216c018701ea657c646832", func := "geofence/geofencelaw02.WordSquares", spec := "wordSquares", inPlace := ["math/bits.Add64"], unfollowed := true, recurses := true, apart := false }
def WordSquaresSaid : Prop := wordSquaresRow.holds Try.pinned (OpenSpec.ofChange wordSquaresSpec)

/-- ITS FALSE NEIGHBOUR: 'it returns false'. Refute it at one input. -/
def wordSquaresWrong : ChangeSpec := { name := "wordSquares", fn := fun _ => fun
  | [d] => { results := [.lit (.bool false)], args := [d] }
  | _ => none }
def WordSquaresWrongFalsely : Prop := wordSquaresRow.holds Try.pinned (OpenSpec.ofChange wordSquaresWrong)

/-- 'geofencelaw02.WordAdds': WHATEVER THE INPUT: true; the input reads as it did. -/
def wordAddsSpec : ChangeSpec := { name := "wordAdds", fn := fun _ => fun
  | [d1, d2, d3] => { results := [.lit (.bool true)], args := [d1, d2, d3] }
  | _ => none }
def wordAddsRow : OpenClaim := { program := "yteadkjbdbljbfaa", sum := "b3d9ad8fc6e54ebdd8f29e48722ab3300f9885eb3b216c018701ea657c646832", func := "geofence/geofencelaw02.WordAdds", spec := "wordAdds", inPlace := ["math/bits.Add64", "math/bits.Sub64"], unfollowed := true, recurses := true, apart := false }
def WordAddsSaid : Prop := wordAddsRow.holds Try.pinned (OpenSpec.ofChange wordAddsSpec)

/-- ITS FALSE NEIGHBOUR: 'it returns false'. Refute it at one input. -/
def wordAddsWrong : ChangeSpec := { name := "wordAdds", fn := fun _ => fun
  | [d1, d2, d3] => { results := [.lit (.bool false)], args := [d1, d2, d3] }
  | _ => none }
def WordAddsWrongFalsely : Prop := wordAddsRow.holds Try.pinned (OpenSpec.ofChange wordAddsWrong)

/-- 'geofencelaw02.WordInverts': WHATEVER THE INPUT: true; the input reads as it did. -/
def wordInvertsSpec : ChangeSpec := { name := "wordInverts", fn := fun _ => fun
  | [d1, d2, d3] => { results := [.lit (.bool true)], args := [d1, d2, d3] }
  | _ => none }
def wordInvertsRow : OpenClaim := { program := "yteadkjbdbljbfaa", sum := "b3d9ad8fc6e54ebdd8f29e48722ab3300f9885eb3b216c018701ea657c646832", func := "geofence/geofencelaw02.WordInverts", spec := "wordInverts", inPlace := ["math/bits.Add64", "math/bits.Sub64"], unfollowed := true, recurses := true, apart := false }
def WordInvertsSaid : Prop := wordInvertsRow.holds Try.pinned (OpenSpec.ofChange wordInvertsSpec)

/-- ITS FALSE NEIGHBOUR: 'it returns false'. Refute it at one input. -/
def wordInvertsWrong : ChangeSpec := { name := "wordInverts", fn := fun _ => fun
  | [d1, d2, d3] => { results := [.lit (.bool false)], args := [d1, d2, d3] }
  | _ => none }
def WordInvertsWrongFalsely : Prop := wordInvertsRow.holds Try.pinned (OpenSpec.ofChange wordInvertsWrong)

/-- 'geofencelaw02.WordMultiplies': WHATEVER THE INPUT: true; the input reads as it did. -/
def wordMultipliesSpec : ChangeSpec := { name := "wordMultiplies", fn := fun _ => fun
  | [d1, d2, d3] => { results := [.lit (.bool true)], args := [d1, d2, d3] }
  | _ => none }
def wordMultipliesRow : OpenClaim := { program := "yteadkjbdbljbfaa", sum := "b3d9ad8fc6e54ebdd8f29e48722ab3300f9885eb3b216c018701ea657c646832", func := "geofence/geofencelaw02.WordMultiplies", spec := "wordMultiplies", inPlace := ["math/bits.Add64"], unfollowed := true, recurses := true, apart := false }
def WordMultipliesSaid : Prop := wordMultipliesRow.holds Try.pinned (OpenSpec.ofChange wordMultipliesSpec)

/-- ITS FALSE NEIGHBOUR: 'it returns false'. Refute it at one input. -/
def wordMultipliesWrong : ChangeSpec := { name := "wordMultiplies", fn := fun _ => fun
  | [d1, d2, d3] => { results := [.lit (.bool false)], args := [d1, d2, d3] }
  | _ => none }
def WordMultipliesWrongFalsely : Prop := wordMultipliesRow.holds Try.pinned (OpenSpec.ofChange wordMultipliesWrong)

/-- 'geofencelaw02.WordCommutes': WHATEVER THE INPUT: true; the input reads as it did. -/
def wordCommutesSpec : ChangeSpec := { name := "wordCommutes", fn := fun _ => fun
  | [d1, d2, d3] => { results := [.lit (.bool true)], args := [d1, d2, d3] }
  | _ => none }
def wordCommutesRow : OpenClaim := { program := "yteadkjbdbljbfaa", sum := "b3d9ad8fc6e54ebdd8f29e48722ab3300f9885eb3b216c018701ea657c646832", func := "geofence/geofencelaw02.WordCommutes", spec := "wordCommutes", inPlace := ["math/bits.Add64"], unfollowed := true, recurses := true, apart := false }
def WordCommutesSaid : Prop := wordCommutesRow.holds Try.pinned (OpenSpec.ofChange wordCommutesSpec)

/-- ITS FALSE NEIGHBOUR: 'it returns false'. Refute it at one input. -/
def wordCommutesWrong : ChangeSpec := { name := "wordCommutes", fn := fun _ => fun
  | [d1, d2, d3] => { results := [.lit (.bool false)], args := [d1, d2, d3] }
  | _ => none }
def WordCommutesWrongFalsely : Prop := wordCommutesRow.holds Try.pinned (OpenSpec.ofChange wordCommutesWrong)

/- THE SECOND FORM. 'bulk': how many values and letters a reading holds, each counted each time it is reached (what is shared counts as often as it is met; a slice's spare places count too). A statement '..UptoSaid' is the law's where the arguments, and the package variables that the reading takes, are together of bulk at most 1048576: NARROWER than '..Said'. Prove '..Said' where nothing that the law and all that it calls make is longer than what came in: it says more and counts as full. Else prove '..UptoSaid'. A law counts once. -/
mutual
def uptoBulk {H : Type} : DataW H → Nat
  | .lit (.string bytes) => bytes.length + 1
  | .lit _ => 1
  | .nil => 1
  | .ptr d => uptoBulk d + 1
  | .slice elems spare => uptoBulkAll elems + uptoBulkAll spare + 1
  | .agg parts => uptoBulkAll parts + 1
  | .iface _ d => uptoBulk d + 1
  | .map entries => uptoBulkEntries entries + 1
  | .held _ => 1
def uptoBulkAll {H : Type} : List (DataW H) → Nat
  | [] => 0
  | d :: r => uptoBulk d + uptoBulkAll r
def uptoBulkEntries {H : Type} : List (Lit × DataW H) → Nat
  | [] => 0
  | x :: r => uptoBulkEntry x + uptoBulkEntries r
def uptoBulkEntry {H : Type} : Lit × DataW H → Nat
  | (.string bytes, d) => bytes.length + uptoBulk d + 1
  | (_, d) => uptoBulk d + 1
 end
def uptoSmall : (H : Type) → List (DataW H) → Bool := fun _ ds => decide (uptoBulkAll ds ≤ 1048576)
def OpenSpec.upto (s : _root_.Go.ChangeSpec) : _root_.Go.OpenSpec := { _root_.Go.OpenSpec.ofChange s with cond := some uptoSmall }

/-- 'geofencelaw02.WordMultipliesSigned', WHERE WHAT IT READS IS OF BULK AT MOST 1048576: true; the input reads as it did. -/
def wordMultipliesSignedUptoRow : OpenClaim := { program := "yteadkjbdbljbfaa", sum := "b3d9ad8fc6e54ebdd8f29e48722ab3300f9885eb3b216c018701ea657c646832", func := "geofence/geofencelaw02.WordMultipliesSigned", spec := "wordMultipliesSigned", inPlace := ["math/bits.Add64"], unfollowed := true, recurses := true, apart := false, narrowed := true }
def WordMultipliesSignedUptoSaid : Prop := wordMultipliesSignedUptoRow.holds Try.pinned (OpenSpec.upto wordMultipliesSignedSpec)

/-- 'geofencelaw02.WordSquares', WHERE WHAT IT READS IS OF BULK AT MOST 1048576: true; the input reads as it did. -/
def wordSquaresUptoRow : OpenClaim := { program := "yteadkjbdbljbfaa", sum := "b3d9ad8fc6e54ebdd8f29e48722ab3300f9885eb3b216c018701ea657c646832", func := "geofence/geofencelaw02.WordSquares", spec := "wordSquares", inPlace := ["math/bits.Add64"], unfollowed := true, recurses := true, apart := false, narrowed := true }
def WordSquaresUptoSaid : Prop := wordSquaresUptoRow.holds Try.pinned (OpenSpec.upto wordSquaresSpec)

/-- 'geofencelaw02.WordAdds', WHERE WHAT IT READS IS OF BULK AT MOST 1048576: true; the input reads as it did. -/
def wordAddsUptoRow : OpenClaim := { program := "yteadkjbdbljbfaa", sum := "b3d9ad8fc6e54ebdd8f29e48722ab3300f9885eb3b216c018701ea657c646832", func := "geofence/geofencelaw02.WordAdds", spec := "wordAdds", inPlace := ["math/bits.Add64", "math/bits.Sub64"], unfollowed := true, recurses := true, apart := false, narrowed := true }
def WordAddsUptoSaid : Prop := wordAddsUptoRow.holds Try.pinned (OpenSpec.upto wordAddsSpec)

/-- 'geofencelaw02.WordInverts', WHERE WHAT IT READS IS OF BULK AT MOST 1048576: true; the input reads as it did. -/
def wordInvertsUptoRow : OpenClaim := { program := "yteadkjbdbljbfaa", sum := "b3d9ad8fc6e54ebdd8f29e48722ab3300f9885eb3b216c018701ea657c646832", func := "geofence/geofencelaw02.WordInverts", spec := "wordInverts", inPlace := ["math/bits.Add64", "math/bits.Sub64"], unfollowed := true, recurses := true, apart := false, narrowed := true }
def WordInvertsUptoSaid : Prop := wordInvertsUptoRow.holds Try.pinned (OpenSpec.upto wordInvertsSpec)

/-- 'geofencelaw02.WordMultiplies', WHERE WHAT IT READS IS OF BULK AT MOST 1048576: true; the input reads as it did. -/
def wordMultipliesUptoRow : OpenClaim := { program := "yteadkjbdbljbfaa", sum := "b3d9ad8fc6e54ebdd8f29e48722ab3300f9885eb3b216c018701ea657c646832", func := "geofence/geofencelaw02.WordMultiplies", spec := "wordMultiplies", inPlace := ["math/bits.Add64"], unfollowed := true, recurses := true, apart := false, narrowed := true }
def WordMultipliesUptoSaid : Prop := wordMultipliesUptoRow.holds Try.pinned (OpenSpec.upto wordMultipliesSpec)

/-- 'geofencelaw02.WordCommutes', WHERE WHAT IT READS IS OF BULK AT MOST 1048576: true; the input reads as it did. -/
def wordCommutesUptoRow : OpenClaim := { program := "yteadkjbdbljbfaa", sum := "b3d9ad8fc6e54ebdd8f29e48722ab3300f9885eb3b216c018701ea657c646832", func := "geofence/geofencelaw02.WordCommutes", spec := "wordCommutes", inPlace := ["math/bits.Add64"], unfollowed := true, recurses := true, apart := false, narrowed := true }
def WordCommutesUptoSaid : Prop := wordCommutesUptoRow.holds Try.pinned (OpenSpec.upto wordCommutesSpec)

end Rows
end Go.Proofs.Yteadkjbdbljbfaa
