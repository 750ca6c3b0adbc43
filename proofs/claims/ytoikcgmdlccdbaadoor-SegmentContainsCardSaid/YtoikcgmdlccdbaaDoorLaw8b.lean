/- What the masks of segments do when points are exchanged; plain facts. -/
import Derived.Test.YtoikcgmdlccdbaaDoorLaw8
import Derived.Test.YtoikcgmdlccdbaaDoorRef8d
namespace Go.Proofs.YtoikcgmdlccdbaaDoor
set_option linter.unusedVariables false
set_option linter.unusedSimpArgs false
open Go.RowKit Wd

theorem det_sw (ax ay bx b_ cx cy : Int) : det bx b_ ax ay cx cy = -(det ax ay bx b_ cx cy) := by unfold det; grind
theorem withB_swap (a b x : Int) : withB b a x = withB a b x := by unfold withB; rw [decide_eq_decide]; exact Or.comm
theorem contB_swap (ax ay bx b_ cx cy : Int) : contB bx b_ ax ay cx cy = contB ax ay bx b_ cx cy := by
  unfold contB
  have h : decide (det bx b_ ax ay cx cy = 0) = decide (det ax ay bx b_ cx cy = 0) := by rw [decide_eq_decide, det_sw]; omega
  rw [withB_swap ax bx, withB_swap ay b_, h]
theorem sidesB_comm (x y : Int) : sidesB x y = sidesB y x := by unfold sidesB; rw [Int.mul_comm]
theorem sg_ng (x : Int) : sg (-x) = -(sg x) := by unfold sg; rw [Int.sign_neg]
theorem sidesB_neg (x y : Int) : sidesB (-x) (-y) = sidesB x y := by unfold sidesB; rw [sg_ng, sg_ng, Int.neg_mul_neg]
theorem crossB_sw1 (ax ay bx b_ cx cy dx dy : Int) : crossB bx b_ ax ay cx cy dx dy = crossB ax ay bx b_ cx cy dx dy := by
  unfold crossB; rw [det_sw ax ay bx b_ cx cy, det_sw ax ay bx b_ dx dy, sidesB_neg, sidesB_comm (det cx cy dx dy bx b_)]
theorem crossB_sw2 (ax ay bx b_ cx cy dx dy : Int) : crossB cx cy dx dy ax ay bx b_ = crossB ax ay bx b_ cx cy dx dy := by
  unfold crossB; rw [Bool.and_comm]
theorem crossB_sw3 (ax ay bx b_ cx cy dx dy : Int) : crossB ax ay bx b_ dx dy cx cy = crossB ax ay bx b_ cx cy dx dy := by
  rw [crossB_sw2 dx dy cx cy ax ay bx b_, crossB_sw1, crossB_sw2]
theorem meetB_sw1 (ax ay bx b_ cx cy dx dy : Int) : meetB bx b_ ax ay cx cy dx dy = meetB ax ay bx b_ cx cy dx dy := by
  unfold meetB; rw [crossB_sw1, contB_swap ax ay bx b_ cx cy, contB_swap ax ay bx b_ dx dy]
  generalize crossB ax ay bx b_ cx cy dx dy = x; generalize contB ax ay bx b_ cx cy = y; generalize contB ax ay bx b_ dx dy = z; generalize contB cx cy dx dy bx b_ = s; generalize contB cx cy dx dy ax ay = t
  cases x <;> cases y <;> cases z <;> cases s <;> cases t <;> rfl
theorem meetB_sw2 (ax ay bx b_ cx cy dx dy : Int) : meetB cx cy dx dy ax ay bx b_ = meetB ax ay bx b_ cx cy dx dy := by
  unfold meetB; rw [crossB_sw2]
  generalize crossB ax ay bx b_ cx cy dx dy = x; generalize contB ax ay bx b_ cx cy = y; generalize contB ax ay bx b_ dx dy = z; generalize contB cx cy dx dy bx b_ = s; generalize contB cx cy dx dy ax ay = t
  cases x <;> cases y <;> cases z <;> cases s <;> cases t <;> rfl
theorem meetB_sw3 (ax ay bx b_ cx cy dx dy : Int) : meetB ax ay bx b_ dx dy cx cy = meetB ax ay bx b_ cx cy dx dy := by
  rw [meetB_sw2 dx dy cx cy ax ay bx b_, meetB_sw1, meetB_sw2]
theorem contB_a (ax ay bx b_ : Int) : contB ax ay bx b_ ax ay = true := by
  unfold contB withB
  rw [show det ax ay bx b_ ax ay = 0 from by unfold det; grind]
  simp
  constructor <;> omega
theorem contB_b (ax ay bx b_ : Int) : contB ax ay bx b_ bx b_ = true := by rw [← contB_swap]; exact contB_a _ _ _ _
theorem meetB_ab (ax ay bx b_ : Int) : meetB ax ay bx b_ ax ay bx b_ = true := by unfold meetB; rw [contB_a]; simp
theorem meetB_bc (ax ay bx b_ cx cy : Int) : meetB ax ay bx b_ bx b_ cx cy = true := by unfold meetB; rw [contB_b]; simp
theorem crossB_ac (ax ay bx b_ cx cy : Int) : crossB ax ay bx b_ ax ay cx cy = false := by
  unfold crossB sidesB
  rw [show det ax ay bx b_ ax ay = 0 from by unfold det; grind, show sg 0 = 0 from rfl, Int.zero_mul]
  simp
theorem nimp1 (ax ay bx b_ cx cy dx dy : Int) : bits .andNot .u64 (msk (crossB ax ay bx b_ cx cy dx dy)) (msk (meetB ax ay bx b_ cx cy dx dy)) = 0 := by
  unfold meetB
  generalize crossB ax ay bx b_ cx cy dx dy = x; generalize contB ax ay bx b_ cx cy = y; generalize contB ax ay bx b_ dx dy = z; generalize contB cx cy dx dy bx b_ = s; generalize contB cx cy dx dy ax ay = t
  cases x <;> cases y <;> cases z <;> cases s <;> cases t <;> rfl
theorem nimp2 (ax ay bx b_ cx cy dx dy : Int) : bits .andNot .u64 (msk (contB ax ay bx b_ cx cy)) (msk (meetB ax ay bx b_ cx cy dx dy)) = 0 := by
  unfold meetB
  generalize crossB ax ay bx b_ cx cy dx dy = x; generalize contB ax ay bx b_ cx cy = y; generalize contB ax ay bx b_ dx dy = z; generalize contB cx cy dx dy bx b_ = s; generalize contB cx cy dx dy ax ay = t
  cases x <;> cases y <;> cases z <;> cases s <;> cases t <;> rfl
theorem nimp3 (ax ay bx b_ cx cy dx dy : Int) : bits .andNot .u64 (msk (contB cx cy dx dy bx b_)) (msk (meetB ax ay bx b_ cx cy dx dy)) = 0 := by
  unfold meetB
  generalize crossB ax ay bx b_ cx cy dx dy = x; generalize contB ax ay bx b_ cx cy = y; generalize contB ax ay bx b_ dx dy = z; generalize contB cx cy dx dy bx b_ = s; generalize contB cx cy dx dy ax ay = t
  cases x <;> cases y <;> cases z <;> cases s <;> cases t <;> rfl
end Go.Proofs.YtoikcgmdlccdbaaDoor
