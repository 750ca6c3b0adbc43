/- Bounds for the law of the ring; the contract of its closure. -/
import Derived.Test.YteadkjbdbljbfaaDoorLaw3b
namespace Go.Proofs.YteadkjbdbljbfaaDoor
set_option linter.unusedVariables false
set_option linter.unusedSimpArgs false
open Go.RowKit Wd

theorem abs_mul_le {x y a b : Int} (hx : -a ≤ x ∧ x ≤ a) (hy : -b ≤ y ∧ y ≤ b) : -(a * b) ≤ x * y ∧ x * y ≤ a * b := by
  have hx' : x.natAbs ≤ a.natAbs := by omega
  have hy' : y.natAbs ≤ b.natAbs := by omega
  have h := Nat.mul_le_mul hx' hy'
  rw [← Int.natAbs_mul, ← Int.natAbs_mul] at h
  have ha : 0 ≤ a := by omega
  have hb : 0 ≤ b := by omega
  have hab := Int.mul_nonneg ha hb
  generalize x * y = p at *
  generalize a * b = q at *
  omega
theorem fit_mul {n m : Nat} {x y : Int} (hx : Fit n x) (hy : Fit m y) : Fit (n + m) (x * y) := by
  unfold Fit at *
  have h := abs_mul_le (x := 2 * x) (y := 2 * y) (a := S n) (b := S m) ⟨by omega, by omega⟩ ⟨by omega, by omega⟩
  have e : 2 * x * (2 * y) = 4 * (x * y) := by grind
  rw [e, ← S_add] at h
  have hS := S_pos (n + m)
  omega
theorem fit_two {x y : Int} (hx : IsI x) (hy : IsI y) : Fit 2 (x + y) := by
  unfold Fit IsI at *
  rw [show S 2 = 340282366920938463463374607431768211456 from rfl]; omega
theorem ring_closure (A : Option Addr) (n c : Nat) (x : Int) (w : World) (ha : Sl w .u64 A n c (lmb x)) (hx : Fit n x) (hn : isN n = true) :
    Calls Tryd.prog 22 #[.slice A n c] w fun e w' => ∃ A' c', e = .returned (.slice A' 8 c') ∧ Sl w' .u64 A' 8 c' (lmb x) ∧ Below w.heap.size w w' := by
  have HA := Lib.hid ha; have HX := Lib.hid hx
  clear ha hx
  go_enter Tryd.func22, Tryd.ntmps22
  go_wp2_with fail
  refine (limb_Extend A n c x _ 8 rfl _ HA.out HX.out hn rfl).mono ?_
  rintro e w1 ⟨A', c', rfl, hs, hb⟩
  have HS := Lib.hid hs; have HB := Lib.hid hb
  clear hs hb
  go_wp2_with fail
  go_ret
  exact ⟨_, _, rfl, HS.out, HB.out⟩
end Go.Proofs.YteadkjbdbljbfaaDoor
