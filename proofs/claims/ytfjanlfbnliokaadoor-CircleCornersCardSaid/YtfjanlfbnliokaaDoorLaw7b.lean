/- Rectangles with axis-parallel sides: the side of a point, plain arithmetic; words of 32 bits. -/
import Derived.Test.YtfjanlfbnliokaaDoorLaw7
namespace Go.Proofs.YtfjanlfbnliokaaDoor
set_option linter.unusedVariables false
open Go.RowKit Wd
theorem u32_of_wf {a : Int} (h : (Lit.int .u32 a).wf = true) : 0 ≤ a ∧ a ≤ 4294967295 := by
  have hmin : IntKind.u32.min = 0 := rfl
  have hmax : IntKind.u32.max = 4294967295 := rfl
  simp only [Lit.wf, Bool.and_eq_true, decide_eq_true_eq] at h
  omega
theorem circ_rect (X Y u v px py : Int) : circ X Y u Y u v px py = -(((u - X) * (v - Y)) * ((px - X) * (px - u) + (py - Y) * (py - v))) := by unfold circ nrm mnr; grind
theorem det_rect (X Y u v : Int) : det X Y u Y u v = (u - X) * (v - Y) := by unfold det; grind
theorem rect_pos {X Y u v : Int} (hu : X < u) (hv : Y < v) : 0 < (u - X) * (v - Y) := Int.mul_pos (by omega) (by omega)
theorem rect_side {X Y u v px py q : Int} (hu : X < u) (hv : Y < v) (hq : (px - X) * (px - u) + (py - Y) * (py - v) = q) : sg (circ X Y u Y u v px py) * sg (det X Y u Y u v) = -(sg q) := by
  have hp := rect_pos hu hv
  rw [circ_rect, det_rect, hq]
  generalize (u - X) * (v - Y) = D at *
  rw [sg_neg']
  have h1 : sg D = 1 := by unfold sg; exact Int.sign_eq_one_of_pos hp
  have h2 : sg (D * q) = sg q := by unfold sg at *; rw [Int.sign_mul, h1, Int.one_mul]
  rw [h1, h2]; omega
theorem quo4 {x : Int} (h : IsI x) : -2305843009213693952 ≤ Int.tdiv x 4 ∧ Int.tdiv x 4 ≤ 2305843009213693951 := by
  unfold IsI at h
  rcases (by omega : 0 ≤ x ∨ 0 ≤ -x) with h0 | h0
  · rw [Int.tdiv_eq_ediv_of_nonneg h0]; omega
  · rw [show x = -(-x) from by omega, Int.neg_tdiv, Int.tdiv_eq_ediv_of_nonneg h0]; omega
theorem rect_d (X Y a b : Int) (ha : 0 ≤ a) (hb : 0 ≤ b) : sg (circ X Y (X + a + 1) Y (X + a + 1) (Y + b + 1) X (Y + b + 1)) * sg (det X Y (X + a + 1) Y (X + a + 1) (Y + b + 1)) = 0 := by
  rw [rect_side (q := 0) (by omega) (by omega) (by grind)]; rfl
theorem rect_o (X Y a b : Int) (ha : 0 ≤ a) (hb : 0 ≤ b) : sg (circ X Y (X + a + 1) Y (X + a + 1) (Y + b + 1) (X + a + 1 + 1) (Y + b + 1)) * sg (det X Y (X + a + 1) Y (X + a + 1) (Y + b + 1)) = -1 := by
  rw [rect_side (q := a + 2) (by omega) (by omega) (by grind)]
  rw [show sg (a + 2) = 1 from by unfold sg; exact Int.sign_eq_one_of_pos (by omega)]
theorem half_neg {a : Int} (ha : 2 ≤ a) : a / 2 * (a / 2 - a - 1) < 0 := by
  have h1 : 1 ≤ a / 2 := by omega
  have h2 : a / 2 - a - 1 ≤ -1 := by omega
  exact Int.mul_neg_of_pos_of_neg (by omega) (by omega)
theorem rect_n (X Y a b : Int) (ha : 2 ≤ a) (hb : 2 ≤ b) : sg (circ X Y (X + a + 1) Y (X + a + 1) (Y + b + 1) (X + a / 2) (Y + b / 2)) * sg (det X Y (X + a + 1) Y (X + a + 1) (Y + b + 1)) = 1 := by
  rw [rect_side (q := a / 2 * (a / 2 - a - 1) + b / 2 * (b / 2 - b - 1)) (by omega) (by omega) (by generalize a / 2 = s; generalize b / 2 = t; grind)]
  have h1 := half_neg ha
  have h2 := half_neg hb
  rw [show sg (a / 2 * (a / 2 - a - 1) + b / 2 * (b / 2 - b - 1)) = -1 from by unfold sg; exact Int.sign_eq_neg_one_of_neg (by omega)]
  rfl
end Go.Proofs.YtfjanlfbnliokaaDoor
