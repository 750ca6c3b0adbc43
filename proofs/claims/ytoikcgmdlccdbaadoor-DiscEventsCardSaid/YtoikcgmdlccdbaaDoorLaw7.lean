/- Contracts of the helpers of layer 7's laws: alive; symmetries of the lifted determinant. -/
import Derived.Test.YtoikcgmdlccdbaaDoorCircle
import Derived.Test.YtoikcgmdlccdbaaDoorRef7
import Derived.Test.YtoikcgmdlccdbaaDoorRef3f
import Derived.Test.YtoikcgmdlccdbaaDoorRef3g
import Derived.Test.YtoikcgmdlccdbaaDoorRef3d
namespace Go.Proofs.YtoikcgmdlccdbaaDoor
set_option linter.unusedVariables false
set_option linter.unusedSimpArgs false
open Go.RowKit Wd

theorem p4_of (dx dy : Int) (h1 : IsI dx) (h2 : IsI dy) : P4 0 0 2 0 0 2 dx dy := by constructor <;> first | exact h1 | exact h2 | (unfold IsI; omega)
theorem isI_s {x : Int} (h0 : 0 ≤ x) (h1 : x ≤ 9) : IsI x := by unfold IsI; omega
theorem sg_zeroB' (x : Int) : (sg x == 0) = decide (x = 0) := by
  unfold sg; rcases (by omega : x < 0 ∨ x = 0 ∨ 0 < x) with h | h | h
  · rw [Int.sign_eq_neg_one_of_neg h]; simp; omega
  · subst h; rfl
  · rw [Int.sign_eq_one_of_pos h]; simp; omega
theorem side_on0 (ax ay bx b_ cx cy : Int) : sg (circ ax ay bx b_ cx cy ax ay) * sg (det ax ay bx b_ cx cy) = 0 := by
  rw [show circ ax ay bx b_ cx cy ax ay = 0 from by unfold circ nrm mnr; grind]; exact Int.zero_mul _
theorem side_on1 (ax ay bx b_ cx cy : Int) : sg (circ ax ay bx b_ cx cy bx b_) * sg (det ax ay bx b_ cx cy) = 0 := by
  rw [show circ ax ay bx b_ cx cy bx b_ = 0 from by unfold circ nrm mnr; grind]; exact Int.zero_mul _
theorem side_on2 (ax ay bx b_ cx cy : Int) : sg (circ ax ay bx b_ cx cy cx cy) * sg (det ax ay bx b_ cx cy) = 0 := by
  rw [show circ ax ay bx b_ cx cy cx cy = 0 from by unfold circ nrm mnr; grind]; exact Int.zero_mul _
theorem al7_1 : sg (circ 0 0 2 0 0 2 1 1) * sg (det 0 0 2 0 0 2) = 1 := by decide
theorem al7_2 : sg (circ 0 0 2 0 0 2 2 2) * sg (det 0 0 2 0 0 2) = 0 := by decide
theorem al7_3 : sg (circ 0 0 2 0 0 2 3 0) * sg (det 0 0 2 0 0 2) = -1 := by decide
theorem al7_4 : sg (circ 0 0 2 0 0 2 1 1) = 1 := by decide
theorem circ_swap (ax ay bx b_ cx cy dx dy : Int) : circ bx b_ ax ay cx cy dx dy = -(circ ax ay bx b_ cx cy dx dy) := by unfold circ nrm mnr; grind
theorem circ_rot (ax ay bx b_ cx cy dx dy : Int) : circ cx cy ax ay bx b_ dx dy = circ ax ay bx b_ cx cy dx dy := by unfold circ nrm mnr; grind
theorem det_swap' (ax ay bx b_ cx cy : Int) : det bx b_ ax ay cx cy = -(det ax ay bx b_ cx cy) := by unfold det; grind
theorem det_rot' (ax ay bx b_ cx cy : Int) : det cx cy ax ay bx b_ = det ax ay bx b_ cx cy := by unfold det; grind
theorem sg_neg' (x : Int) : sg (-x) = -(sg x) := by unfold sg; rw [Int.sign_neg]
theorem side_swap (ax ay bx b_ cx cy dx dy : Int) : sg (circ bx b_ ax ay cx cy dx dy) * sg (det bx b_ ax ay cx cy) = sg (circ ax ay bx b_ cx cy dx dy) * sg (det ax ay bx b_ cx cy) := by
  rw [circ_swap, det_swap', sg_neg', sg_neg', Int.neg_mul_neg]
theorem side_rot (ax ay bx b_ cx cy dx dy : Int) : sg (circ cx cy ax ay bx b_ dx dy) * sg (det cx cy ax ay bx b_) = sg (circ ax ay bx b_ cx cy dx dy) * sg (det ax ay bx b_ cx cy) := by
  rw [circ_rot, det_rot']
end Go.Proofs.YtoikcgmdlccdbaaDoor
