/- The contract of the reference's value of an integer (geofenceref03.Value). -/
import Derived.Test.YtoikcgmdlccdbaaDoorRef3d
import Derived.Deep.RegionHeld3
namespace Go.Proofs.YtoikcgmdlccdbaaDoor
set_option linter.unusedVariables false
set_option linter.unusedSimpArgs false
set_option maxRecDepth 20000
open Go.RowKit

/-! limbs and digits -/
theorem SS (i : Nat) : Dd.S (4 * i) = Wd.S i := by
  induction i with
  | zero => rfl
  | succ n ih =>
    rw [show 4 * (n + 1) = 4 * n + 1 + 1 + 1 + 1 from by omega, Dd.S_succ, Dd.S_succ, Dd.S_succ, Dd.S_succ, ih, Wd.S_succ]
    omega
theorem qq (x : Int) (i : Nat) : Wd.qt x i = Dd.qt x (4 * i) := by unfold Wd.qt Dd.qt; rw [SS]
theorem limb_digit (x : Int) (i k : Nat) (hk : k < 4) : Dd.lmb (Wd.lmb x i) k = Dd.lmb x (4 * i + k) := by
  have e : Wd.lmb x i = Dd.qt x (4 * i) + -(Dd.qt x (4 * i) / 18446744073709551616) * Dd.S 4 := by
    unfold Wd.lmb; rw [qq, s4]; omega
  rw [e, Dd.lmb_cong _ _ hk]
  unfold Dd.lmb
  rw [Dd.qt_add]
/-- the unsigned reading of n limbs -/
def uns (x : Int) (n : Nat) : Int := if x < 0 then x + Wd.S n else x
theorem uns_fits {x : Int} {n : Nat} (h : Wd.Fit n x) : Dd.Fits (4 * n) (uns x n) := by
  have hS := Wd.S_pos n
  unfold Wd.Fit at h
  unfold Dd.Fits uns
  rw [SS]
  split <;> omega
theorem uns_lmb {x : Int} {n j : Nat} (h : j < 4 * n) : Dd.lmb x j = Dd.lmb (uns x n) j := by
  unfold uns
  split
  · have := Dd.lmb_cong x 1 h
    rw [Int.one_mul, SS] at this; exact this.symm
  · rfl

theorem read2 {w : World} {B : Nat} {a b v0 v1 : Value} {t : TypeId} (o : Obj) (h : w.heap[B]? = some (.cells #[a, b] t (0, 0))) :
    (((w.setCell ⟨B, 0, none⟩ v0).setCell ⟨B, 1, none⟩ v1).alloc o).cell? ⟨B, 0, none⟩ = some v0 ∧ (((w.setCell ⟨B, 0, none⟩ v0).setCell ⟨B, 1, none⟩ v1).alloc o).cell? ⟨B, 1, none⟩ = some v1 := by
  have h1 := heap_setCell_same w B 0 _ _ v0 h
  have h2 := heap_setCell_same _ B 1 _ _ v1 h1
  have hlt : B < ((w.setCell ⟨B, 0, none⟩ v0).setCell ⟨B, 1, none⟩ v1).heap.size := by
    rcases Nat.lt_or_ge B ((w.setCell ⟨B, 0, none⟩ v0).setCell ⟨B, 1, none⟩ v1).heap.size with h3 | h3
    · exact h3
    · rw [Array.getElem?_eq_none h3] at h2; cases h2
  have h4 := (Below.heap_alloc _ o B hlt).trans h2
  exact ⟨by simp [World.cell?, h4], by simp [World.cell?, h4]⟩
end Go.Proofs.YtoikcgmdlccdbaaDoor
