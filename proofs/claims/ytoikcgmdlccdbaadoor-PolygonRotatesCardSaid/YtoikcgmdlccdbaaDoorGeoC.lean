/- Plain geometry over Int: the lifted determinant of four points; its bounds, its expansion. No program in sight. -/
import Derived.Test.YtoikcgmdlccdbaaDoorGeo
namespace Go.Proofs.YtoikcgmdlccdbaaDoor
set_option linter.unusedVariables false
namespace Wd
/-- the cross product of the vectors from d to b and from d to c -/
def mnr (bx b_ cx cy dx dy : Int) : Int := (bx - dx) * (cy - dy) - (b_ - dy) * (cx - dx)
def nrm (ax ay dx dy : Int) : Int := (ax - dx) * (ax - dx) + (ay - dy) * (ay - dy)
/-- the lifted determinant of a, b, c, d -/
def circ (ax ay bx b_ cx cy dx dy : Int) : Int :=
  nrm ax ay dx dy * mnr bx b_ cx cy dx dy + nrm bx b_ dx dy * mnr cx cy ax ay dx dy + nrm cx cy dx dy * mnr ax ay bx b_ dx dy
theorem circ_ref (ax ay bx b_ cx cy dx dy : Int) :
    (ax * ax + ay * ay) * det bx b_ cx cy dx dy - (bx * bx + b_ * b_) * det ax ay cx cy dx dy + ((cx * cx + cy * cy) * det ax ay bx b_ dx dy - (dx * dx + dy * dy) * det ax ay bx b_ cx cy) = circ ax ay bx b_ cx cy dx dy := by
  unfold circ nrm mnr det; grind
theorem mnr_bd {bx b_ cx cy dx dy : Int} (h1 : IsI bx) (h2 : IsI b_) (h3 : IsI cx) (h4 : IsI cy) (h5 : IsI dx) (h6 : IsI dy) :
    -680564733841876926852962238568698216450 ≤ mnr bx b_ cx cy dx dy ∧ mnr bx b_ cx cy dx dy ≤ 680564733841876926852962238568698216450 := by
  have e1 := isD_mul (isD_sub h1 h5) (isD_sub h4 h6)
  have e2 := isD_mul (isD_sub h2 h6) (isD_sub h3 h5)
  unfold mnr
  omega
theorem nrm_bd {ax ay dx dy : Int} (h1 : IsI ax) (h2 : IsI ay) (h5 : IsI dx) (h6 : IsI dy) : 0 ≤ nrm ax ay dx dy ∧ nrm ax ay dx dy ≤ 680564733841876926852962238568698216450 := norm_bd (isD_sub h1 h5) (isD_sub h2 h6)
end Wd
/-- the four coordinate pairs are signed words -/
structure P4 (ax ay bx b_ cx cy dx dy : Int) : Prop where
  a : Wd.IsI ax
  b : Wd.IsI ay
  c : Wd.IsI bx
  d : Wd.IsI b_
  e : Wd.IsI cx
  f : Wd.IsI cy
  g : Wd.IsI dx
  h : Wd.IsI dy
theorem prod_bd {x y : Int} (hx : 0 ≤ x ∧ x ≤ 680564733841876926852962238568698216450) (hy : -680564733841876926852962238568698216450 ≤ y ∧ y ≤ 680564733841876926852962238568698216450) :
    -463168356949264781694283940034751631411213077750319489567148635744460200702500 - 100000000000000000000000000000000000000000000000000000000000000000000000000000000 ≤ x * y ∧ x * y ≤ 463168356949264781694283940034751631411213077750319489567148635744460200702500 + 100000000000000000000000000000000000000000000000000000000000000000000000000000000 := by
  have h := Wd.abs_mul_le (x := x) (y := y) (a := 680564733841876926852962238568698216450) (b := 680564733841876926852962238568698216450) ⟨by omega, by omega⟩ ⟨by omega, by omega⟩
  omega
theorem P4.fit {ax ay bx b_ cx cy dx dy : Int} (h : P4 ax ay bx b_ cx cy dx dy) : Wd.Fit 5 (Wd.circ ax ay bx b_ cx cy dx dy) := by
  have e1 := prod_bd (Wd.nrm_bd h.a h.b h.g h.h) (Wd.mnr_bd h.c h.d h.e h.f h.g h.h)
  have e2 := prod_bd (Wd.nrm_bd h.c h.d h.g h.h) (Wd.mnr_bd h.e h.f h.a h.b h.g h.h)
  have e3 := prod_bd (Wd.nrm_bd h.e h.f h.g h.h) (Wd.mnr_bd h.a h.b h.c h.d h.g h.h)
  unfold Wd.Fit Wd.circ
  rw [show Wd.S 5 = 2135987035920910082395021706169552114602704522356652769947041607822219725780640550022962086936576 from rfl]
  omega
end Go.Proofs.YtoikcgmdlccdbaaDoor
