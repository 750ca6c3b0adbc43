/- Plain geometry over Int: the determinant of three points, the lifted determinant of four; bounds. No program in sight. -/
import Derived.Test.YtoikcgmdlccdbaaDoorLimbMath
namespace Go.Proofs.YtoikcgmdlccdbaaDoor
set_option linter.unusedVariables false
namespace Wd

theorem abs_mul_le {x y a b : Int} (hx : -a ≤ x ∧ x ≤ a) (hy : -b ≤ y ∧ y ≤ b) : -(a * b) ≤ x * y ∧ x * y ≤ a * b := by
  have hx' : x.natAbs ≤ a.natAbs := by omega
  have hy' : y.natAbs ≤ b.natAbs := by omega
  have h := Nat.mul_le_mul hx' hy'
  rw [← Int.natAbs_mul, ← Int.natAbs_mul] at h
  have ha : 0 ≤ a := by omega
  have hb : 0 ≤ b := by omega
  have hab := Int.mul_nonneg ha hb
  generalize x * y = p at *
  generalize a * b = q at *
  omega
/-- the determinant of a, b, c -/
def det (ax ay bx b_ cx cy : Int) : Int := (bx - ax) * (cy - ay) - (b_ - ay) * (cx - ax)
def IsD (x : Int) : Prop := -18446744073709551615 ≤ x ∧ x ≤ 18446744073709551615
theorem isD_sub {a b : Int} (ha : IsI a) (hb : IsI b) : IsD (a - b) := by unfold IsI at *; unfold IsD; omega
theorem isD_mul {x y : Int} (hx : IsD x) (hy : IsD y) : -340282366920938463426481119284349108225 ≤ x * y ∧ x * y ≤ 340282366920938463426481119284349108225 := abs_mul_le hx hy
theorem isD_fit {x : Int} (hx : IsD x) : Fit 2 x := by
  unfold IsD at hx; unfold Fit
  rw [show S 2 = 340282366920938463463374607431768211456 from rfl]; omega
theorem det_bd {ax ay bx b_ cx cy : Int} (h1 : IsI ax) (h2 : IsI ay) (h3 : IsI bx) (h4 : IsI b_) (h5 : IsI cx) (h6 : IsI cy) :
    -680564733841876926852962238568698216450 ≤ det ax ay bx b_ cx cy ∧ det ax ay bx b_ cx cy ≤ 680564733841876926852962238568698216450 := by
  have e1 := isD_mul (isD_sub h3 h1) (isD_sub h6 h2)
  have e2 := isD_mul (isD_sub h4 h2) (isD_sub h5 h1)
  unfold det
  omega
theorem fit3_of {x : Int} (h : -680564733841876926852962238568698216450 ≤ x ∧ x ≤ 680564733841876926852962238568698216450) : Fit 3 x := by
  unfold Fit
  rw [show S 3 = 6277101735386680763835789423207666416102355444464034512896 from rfl]; omega
theorem det_fit {ax ay bx b_ cx cy : Int} (h1 : IsI ax) (h2 : IsI ay) (h3 : IsI bx) (h4 : IsI b_) (h5 : IsI cx) (h6 : IsI cy) : Fit 3 (det ax ay bx b_ cx cy) := fit3_of (det_bd h1 h2 h3 h4 h5 h6)
theorem norm_bd {x y : Int} (hx : IsD x) (hy : IsD y) : 0 ≤ x * x + y * y ∧ x * x + y * y ≤ 680564733841876926852962238568698216450 := by
  have e1 := isD_mul hx hx
  have e2 := isD_mul hy hy
  have p1 : 0 ≤ x * x := by rcases Int.le_total 0 x with h | h; exact Int.mul_nonneg h h; exact Int.mul_nonneg_of_nonpos_of_nonpos h h
  have p2 : 0 ≤ y * y := by rcases Int.le_total 0 y with h | h; exact Int.mul_nonneg h h; exact Int.mul_nonneg_of_nonpos_of_nonpos h h
  omega
end Wd
/-- the three coordinates pairs are signed words -/
structure P3 (ax ay bx b_ cx cy : Int) : Prop where
  a : Wd.IsI ax
  b : Wd.IsI ay
  c : Wd.IsI bx
  d : Wd.IsI b_
  e : Wd.IsI cx
  f : Wd.IsI cy
theorem P3.fit {ax ay bx b_ cx cy : Int} (h : P3 ax ay bx b_ cx cy) : Wd.Fit 3 (Wd.det ax ay bx b_ cx cy) := Wd.det_fit h.a h.b h.c h.d h.e h.f
end Go.Proofs.YtoikcgmdlccdbaaDoor
