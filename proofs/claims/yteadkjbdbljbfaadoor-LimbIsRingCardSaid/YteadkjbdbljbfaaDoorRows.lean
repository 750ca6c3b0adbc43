/-
  NARROWER THAN 'FOR EVERY INPUT', by the rows' own cells (each row's printed sentence says how): LimbConverts: laid · LimbMultiplies: laid · LimbSelects: laid · LimbIsRing: laid · LimbFits: laid · LimbCompares: laid · LimbAdds: laid.
  DERIVED. THE GIVEN ROWS OF THIS SEAT. 7 by the template 'for every input the law returns true; each argument reads behind the call as it read before'; 0 by the template 'total and deterministic' (their statements: YteadkjbdbljbfaaDoorTotals.lean).
  GIVEN WITH THE SEED: the statements are not yours to turn. If you find one false, say at which input.
  Laid BY PROGRAM, IN A SANDBOX (cutbox-rows.mjs): the forced cells as the released guide's own fill.sh prints them over the translation 68e6d0dc61b80679… (all of the seat's roots in one cut). By AI agents, Wed Nov 11 2026. No macro, syntax, notation, axiom, sorry.
-/
import Derived.Test.YteadkjbdbljbfaaDoorChecked
import GoSem.Claim
import GoSem.ClaimJoined
import GoSem.ClaimMapViews
import Derived.JoinedTies
import Derived.KernelRfl
namespace Go.Proofs.YteadkjbdbljbfaaDoor
/- THE CELL 'sum', in the pinned program and in every row, IS THE sha256 OF THE DUMP (.gsa) THAT YteadkjbdbljbfaaDoorProg.lean LOADS. Nothing in Lean hashes anything: it is a label: what it is worth is what the hold of that sum in a sandbox is worth. -/
noncomputable def Tryd.pinned : Pinned := { name := "yteadkjbdbljbfaadoor", sum := "68e6d0dc61b80679ba28af9b76e3e7ead53d92d0e2d1341418d1471f885689ce", checked := Tryd.checked }
namespace Rows
def none {H : Type} : Left H := { results := [], args := [] }

/- WHAT THE LISTED PACKAGE-LEVEL VARIABLES READ AS WHEN THE CALL BEGINS. Each datum BY PROGRAM (the guide's laid-datum.mjs) off the statement by which the dump's own 'gosem.cut.vars' lays the variable. In a bare row this is a premise. The card (YteadkjbdbljbfaaDoorCards.lean) ties it to the program's text. -/
def laid_geofence_mask_words {H : Type} : DataW H := .agg [.lit (.int .u64 9223372036854775808), .lit (.int .u64 18446744073709551615)]

/-- 'geofencelaw03.LimbConverts': WHATEVER THE INPUT: true; the input reads as it did. -/
def limbConvertsSpec : ChangeSpec := { name := "limbConverts", fn := fun _ => fun
  | [d1, d2, d3] => { results := [.lit (.bool true)], args := [d1, d2, d3] }
  | _ => none }
def limbConvertsRow : OpenClaim := { program := "yteadkjbdbljbfaadoor", sum := "68e6d0dc61b80679ba28af9b76e3e7ead53d92d0e2d1341418d1471f885689ce", func := "geofence/geofencelaw03.LimbConverts", spec := "limbConverts", inPlace := ["math/bits.Add64"], named := ["geofence/mask.words"], apart := false, laid := [("geofence/mask.words", laid_geofence_mask_words)] }
def LimbConvertsSaid : Prop := limbConvertsRow.holds Tryd.pinned (OpenSpec.ofChange limbConvertsSpec)

/-- ITS FALSE NEIGHBOUR: 'it returns false'. Refute it at one input. -/
def limbConvertsWrong : ChangeSpec := { name := "limbConverts", fn := fun _ => fun
  | [d1, d2, d3] => { results := [.lit (.bool false)], args := [d1, d2, d3] }
  | _ => none }
def LimbConvertsWrongFalsely : Prop := limbConvertsRow.holds Tryd.pinned (OpenSpec.ofChange limbConvertsWrong)

/-- 'geofencelaw03.LimbMultiplies': WHATEVER THE INPUT: true; the input reads as it did. -/
def limbMultipliesSpec : ChangeSpec := { name := "limbMultiplies", fn := fun _ => fun
  | [d1, d2] => { results := [.lit (.bool true)], args := [d1, d2] }
  | _ => none }
def limbMultipliesRow : OpenClaim := { program := "yteadkjbdbljbfaadoor", sum := "68e6d0dc61b80679ba28af9b76e3e7ead53d92d0e2d1341418d1471f885689ce", func := "geofence/geofencelaw03.LimbMultiplies", spec := "limbMultiplies", inPlace := ["math/bits.Add64"], named := ["geofence/mask.words"], apart := false, laid := [("geofence/mask.words", laid_geofence_mask_words)] }
def LimbMultipliesSaid : Prop := limbMultipliesRow.holds Tryd.pinned (OpenSpec.ofChange limbMultipliesSpec)

/-- ITS FALSE NEIGHBOUR: 'it returns false'. Refute it at one input. -/
def limbMultipliesWrong : ChangeSpec := { name := "limbMultiplies", fn := fun _ => fun
  | [d1, d2] => { results := [.lit (.bool false)], args := [d1, d2] }
  | _ => none }
def LimbMultipliesWrongFalsely : Prop := limbMultipliesRow.holds Tryd.pinned (OpenSpec.ofChange limbMultipliesWrong)

/-- 'geofencelaw03.LimbSelects': WHATEVER THE INPUT: true; the input reads as it did. -/
def limbSelectsSpec : ChangeSpec := { name := "limbSelects", fn := fun _ => fun
  | [d1, d2, d3] => { results := [.lit (.bool true)], args := [d1, d2, d3] }
  | _ => none }
def limbSelectsRow : OpenClaim := { program := "yteadkjbdbljbfaadoor", sum := "68e6d0dc61b80679ba28af9b76e3e7ead53d92d0e2d1341418d1471f885689ce", func := "geofence/geofencelaw03.LimbSelects", spec := "limbSelects", inPlace := ["math/bits.Add64"], named := ["geofence/mask.words"], apart := false, laid := [("geofence/mask.words", laid_geofence_mask_words)] }
def LimbSelectsSaid : Prop := limbSelectsRow.holds Tryd.pinned (OpenSpec.ofChange limbSelectsSpec)

/-- ITS FALSE NEIGHBOUR: 'it returns false'. Refute it at one input. -/
def limbSelectsWrong : ChangeSpec := { name := "limbSelects", fn := fun _ => fun
  | [d1, d2, d3] => { results := [.lit (.bool false)], args := [d1, d2, d3] }
  | _ => none }
def LimbSelectsWrongFalsely : Prop := limbSelectsRow.holds Tryd.pinned (OpenSpec.ofChange limbSelectsWrong)

/-- 'geofencelaw03.LimbIsRing': WHATEVER THE INPUT: true; the input reads as it did. -/
def limbIsRingSpec : ChangeSpec := { name := "limbIsRing", fn := fun _ => fun
  | [d1, d2, d3] => { results := [.lit (.bool true)], args := [d1, d2, d3] }
  | _ => none }
def limbIsRingRow : OpenClaim := { program := "yteadkjbdbljbfaadoor", sum := "68e6d0dc61b80679ba28af9b76e3e7ead53d92d0e2d1341418d1471f885689ce", func := "geofence/geofencelaw03.LimbIsRing", spec := "limbIsRing", inPlace := ["math/bits.Add64"], unfollowed := true, recurses := true, named := ["geofence/mask.words"], apart := false, laid := [("geofence/mask.words", laid_geofence_mask_words)] }
def LimbIsRingSaid : Prop := limbIsRingRow.holds Tryd.pinned (OpenSpec.ofChange limbIsRingSpec)

/-- ITS FALSE NEIGHBOUR: 'it returns false'. Refute it at one input. -/
def limbIsRingWrong : ChangeSpec := { name := "limbIsRing", fn := fun _ => fun
  | [d1, d2, d3] => { results := [.lit (.bool false)], args := [d1, d2, d3] }
  | _ => none }
def LimbIsRingWrongFalsely : Prop := limbIsRingRow.holds Tryd.pinned (OpenSpec.ofChange limbIsRingWrong)

/-- 'geofencelaw03.LimbFits': WHATEVER THE INPUT: true; the input reads as it did. -/
def limbFitsSpec : ChangeSpec := { name := "limbFits", fn := fun _ => fun
  | [d1, d2] => { results := [.lit (.bool true)], args := [d1, d2] }
  | _ => none }
def limbFitsRow : OpenClaim := { program := "yteadkjbdbljbfaadoor", sum := "68e6d0dc61b80679ba28af9b76e3e7ead53d92d0e2d1341418d1471f885689ce", func := "geofence/geofencelaw03.LimbFits", spec := "limbFits", inPlace := ["math/bits.Add64"], named := ["geofence/mask.words"], apart := false, laid := [("geofence/mask.words", laid_geofence_mask_words)] }
def LimbFitsSaid : Prop := limbFitsRow.holds Tryd.pinned (OpenSpec.ofChange limbFitsSpec)

/-- ITS FALSE NEIGHBOUR: 'it returns false'. Refute it at one input. -/
def limbFitsWrong : ChangeSpec := { name := "limbFits", fn := fun _ => fun
  | [d1, d2] => { results := [.lit (.bool false)], args := [d1, d2] }
  | _ => none }
def LimbFitsWrongFalsely : Prop := limbFitsRow.holds Tryd.pinned (OpenSpec.ofChange limbFitsWrong)

/-- 'geofencelaw03.LimbCompares': WHATEVER THE INPUT: true; the input reads as it did. -/
def limbComparesSpec : ChangeSpec := { name := "limbCompares", fn := fun _ => fun
  | [d1, d2] => { results := [.lit (.bool true)], args := [d1, d2] }
  | _ => none }
def limbComparesRow : OpenClaim := { program := "yteadkjbdbljbfaadoor", sum := "68e6d0dc61b80679ba28af9b76e3e7ead53d92d0e2d1341418d1471f885689ce", func := "geofence/geofencelaw03.LimbCompares", spec := "limbCompares", inPlace := ["math/bits.Add64", "math/bits.Sub64"], named := ["geofence/mask.words"], apart := false, laid := [("geofence/mask.words", laid_geofence_mask_words)] }
def LimbComparesSaid : Prop := limbComparesRow.holds Tryd.pinned (OpenSpec.ofChange limbComparesSpec)

/-- ITS FALSE NEIGHBOUR: 'it returns false'. Refute it at one input. -/
def limbComparesWrong : ChangeSpec := { name := "limbCompares", fn := fun _ => fun
  | [d1, d2] => { results := [.lit (.bool false)], args := [d1, d2] }
  | _ => none }
def LimbComparesWrongFalsely : Prop := limbComparesRow.holds Tryd.pinned (OpenSpec.ofChange limbComparesWrong)

/-- 'geofencelaw03.LimbAdds': WHATEVER THE INPUT: true; the input reads as it did. -/
def limbAddsSpec : ChangeSpec := { name := "limbAdds", fn := fun _ => fun
  | [d1, d2] => { results := [.lit (.bool true)], args := [d1, d2] }
  | _ => none }
def limbAddsRow : OpenClaim := { program := "yteadkjbdbljbfaadoor", sum := "68e6d0dc61b80679ba28af9b76e3e7ead53d92d0e2d1341418d1471f885689ce", func := "geofence/geofencelaw03.LimbAdds", spec := "limbAdds", inPlace := ["math/bits.Add64", "math/bits.Sub64"], unfollowed := true, recurses := true, named := ["geofence/mask.words"], apart := false, laid := [("geofence/mask.words", laid_geofence_mask_words)] }
def LimbAddsSaid : Prop := limbAddsRow.holds Tryd.pinned (OpenSpec.ofChange limbAddsSpec)

/-- ITS FALSE NEIGHBOUR: 'it returns false'. Refute it at one input. -/
def limbAddsWrong : ChangeSpec := { name := "limbAdds", fn := fun _ => fun
  | [d1, d2] => { results := [.lit (.bool false)], args := [d1, d2] }
  | _ => none }
def LimbAddsWrongFalsely : Prop := limbAddsRow.holds Tryd.pinned (OpenSpec.ofChange limbAddsWrong)

/- THE SECOND FORM. 'bulk': how many values and letters a reading holds, each counted each time it is reached (what is shared counts as often as it is met; a slice's spare places count too). A statement '..UptoSaid' is the law's where the arguments, and the package variables that the reading takes, are together of bulk at most 1048576: NARROWER than '..Said'. Prove '..Said' where nothing that the law and all that it calls make is longer than what came in: it says more and counts as full. Else prove '..UptoSaid'. A law counts once. -/
mutual
def uptoBulk {H : Type} : DataW H → Nat
  | .lit (.string bytes) => bytes.length + 1
  | .lit _ => 1
  | .nil => 1
  | .ptr d => uptoBulk d + 1
  | .slice elems spare => uptoBulkAll elems + uptoBulkAll spare + 1
  | .agg parts => uptoBulkAll parts + 1
  | .iface _ d => uptoBulk d + 1
  | .map entries => uptoBulkEntries entries + 1
  | .held _ => 1
def uptoBulkAll {H : Type} : List (DataW H) → Nat
  | [] => 0
  | d :: r => uptoBulk d + uptoBulkAll r
def uptoBulkEntries {H : Type} : List (Lit × DataW H) → Nat
  | [] => 0
  | x :: r => uptoBulkEntry x + uptoBulkEntries r
def uptoBulkEntry {H : Type} : Lit × DataW H → Nat
  | (.string bytes, d) => bytes.length + uptoBulk d + 1
  | (_, d) => uptoBulk d + 1
 end
def uptoSmall : (H : Type) → List (DataW H) → Bool := fun _ ds => decide (uptoBulkAll ds ≤ 1048576)
def OpenSpec.upto (s : _root_.Go.ChangeSpec) : _root_.Go.OpenSpec := { _root_.Go.OpenSpec.ofChange s with cond := some uptoSmall }

/-- 'geofencelaw03.LimbConverts', WHERE WHAT IT READS IS OF BULK AT MOST 1048576: true; the input reads as it did. -/
def limbConvertsUptoRow : OpenClaim := { program := "yteadkjbdbljbfaadoor", sum := "68e6d0dc61b80679ba28af9b76e3e7ead53d92d0e2d1341418d1471f885689ce", func := "geofence/geofencelaw03.LimbConverts", spec := "limbConverts", inPlace := ["math/bits.Add64"], named := ["geofence/mask.words"], apart := false, laid := [("geofence/mask.words", laid_geofence_mask_words)], narrowed := true }
def LimbConvertsUptoSaid : Prop := limbConvertsUptoRow.holds Tryd.pinned (OpenSpec.upto limbConvertsSpec)

/-- 'geofencelaw03.LimbMultiplies', WHERE WHAT IT READS IS OF BULK AT MOST 1048576: true; the input reads as it did. -/
def limbMultipliesUptoRow : OpenClaim := { program := "yteadkjbdbljbfaadoor", sum := "68e6d0dc61b80679ba28af9b76e3e7ead53d92d0e2d1341418d1471f885689ce", func := "geofence/geofencelaw03.LimbMultiplies", spec := "limbMultiplies", inPlace := ["math/bits.Add64"], named := ["geofence/mask.words"], apart := false, laid := [("geofence/mask.words", laid_geofence_mask_words)], narrowed := true }
def LimbMultipliesUptoSaid : Prop := limbMultipliesUptoRow.holds Tryd.pinned (OpenSpec.upto limbMultipliesSpec)

/-- 'geofencelaw03.LimbSelects', WHERE WHAT IT READS IS OF BULK AT MOST 1048576: true; the input reads as it did. -/
def limbSelectsUptoRow : OpenClaim := { program := "yteadkjbdbljbfaadoor", sum := "68e6d0dc61b80679ba28af9b76e3e7ead53d92d0e2d1341418d1471f885689ce", func := "geofence/geofencelaw03.LimbSelects", spec := "limbSelects", inPlace := ["math/bits.Add64"], named := ["geofence/mask.words"], apart := false, laid := [("geofence/mask.words", laid_geofence_mask_words)], narrowed := true }
def LimbSelectsUptoSaid : Prop := limbSelectsUptoRow.holds Tryd.pinned (OpenSpec.upto limbSelectsSpec)

/-- 'geofencelaw03.LimbIsRing', WHERE WHAT IT READS IS OF BULK AT MOST 1048576: true; the input reads as it did. -/
def limbIsRingUptoRow : OpenClaim := { program := "yteadkjbdbljbfaadoor", sum := "68e6d0dc61b80679ba28af9b76e3e7ead53d92d0e2d1341418d1471f885689ce", func := "geofence/geofencelaw03.LimbIsRing", spec := "limbIsRing", inPlace := ["math/bits.Add64"], unfollowed := true, recurses := true, named := ["geofence/mask.words"], apart := false, laid := [("geofence/mask.words", laid_geofence_mask_words)], narrowed := true }
def LimbIsRingUptoSaid : Prop := limbIsRingUptoRow.holds Tryd.pinned (OpenSpec.upto limbIsRingSpec)

/-- 'geofencelaw03.LimbFits', WHERE WHAT IT READS IS OF BULK AT MOST 1048576: true; the input reads as it did. -/
def limbFitsUptoRow : OpenClaim := { program := "yteadkjbdbljbfaadoor", sum := "68e6d0dc61b80679ba28af9b76e3e7ead53d92d0e2d1341418d1471f885689ce", func := "geofence/geofencelaw03.LimbFits", spec := "limbFits", inPlace := ["math/bits.Add64"], named := ["geofence/mask.words"], apart := false, laid := [("geofence/mask.words", laid_geofence_mask_words)], narrowed := true }
def LimbFitsUptoSaid : Prop := limbFitsUptoRow.holds Tryd.pinned (OpenSpec.upto limbFitsSpec)

/-- 'geofencelaw03.LimbCompares', WHERE WHAT IT READS IS OF BULK AT MOST 1048576: true; the input reads as it did. -/
def limbComparesUptoRow : OpenClaim := { program := "yteadkjbdbljbfaadoor", sum := "68e6d0dc61b80679ba28af9b76e3e7ead53d92d0e2d1341418d1471f885689ce", func := "geofence/geofencelaw03.LimbCompares", spec := "limbCompares", inPlace := ["math/bits.Add64", "math/bits.Sub64"], named := ["geofence/mask.words"], apart := false, laid := [("geofence/mask.words", laid_geofence_mask_words)], narrowed := true }
def LimbComparesUptoSaid : Prop := limbComparesUptoRow.holds Tryd.pinned (OpenSpec.upto limbComparesSpec)

/-- 'geofencelaw03.LimbAdds', WHERE WHAT IT READS IS OF BULK AT MOST 1048576: true; the input reads as it did. -/
def limbAddsUptoRow : OpenClaim := { program := "yteadkjbdbljbfaadoor", sum := "68e6d0dc61b80679ba28af9b76e3e7ead53d92d0e2d1341418d1471f885689ce", func := "geofence/geofencelaw03.LimbAdds", spec := "limbAdds", inPlace := ["math/bits.Add64", "math/bits.Sub64"], unfollowed := true, recurses := true, named := ["geofence/mask.words"], apart := false, laid := [("geofence/mask.words", laid_geofence_mask_words)], narrowed := true }
def LimbAddsUptoSaid : Prop := limbAddsUptoRow.holds Tryd.pinned (OpenSpec.upto limbAddsSpec)

end Rows
end Go.Proofs.YteadkjbdbljbfaaDoor
