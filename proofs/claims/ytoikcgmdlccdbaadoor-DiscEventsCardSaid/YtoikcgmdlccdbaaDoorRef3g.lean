/- The contract of the reference's limbs of a number (geofenceref03.Limbs). -/
import Derived.Test.YtoikcgmdlccdbaaDoorRef3f
import Derived.StillTailTactics
import Derived.Deep.Cut
namespace Go.Proofs.YtoikcgmdlccdbaaDoor
set_option linter.unusedVariables false
set_option linter.unusedSimpArgs false
open Go.RowKit

theorem info_u64g : (Tryd.prog.info? 23).map (fun i => (i.zero, i.size, i.bytes)) = some (some (.int .u64 0), 1, 8) := by kernel_rfl
/-- X, only its first i digits -/
def part (X : Int) (i : Nat) : Int := X - Dd.qt X i * Dd.S i
theorem part_zero (X : Int) : part X 0 = 0 := by unfold part; rw [Dd.qt_zero, Dd.S_zero]; omega
theorem part_succ (X : Int) (i : Nat) : part X (i + 1) = part X i + Dd.lmb X i * Dd.S i := by
  unfold part Dd.lmb
  rw [Dd.qt_succ, Dd.S_succ]
  have e : Dd.qt X i = Dd.qt X i / 65536 * 65536 + Dd.qt X i % 65536 := by omega
  generalize Dd.qt X i / 65536 = u at *
  generalize Dd.qt X i % 65536 = v at *
  rw [e, Int.add_mul]
  have e1 : u * (Dd.S i * 65536) = u * 65536 * Dd.S i := by rw [Int.mul_assoc, Int.mul_comm (Dd.S i), ← Int.mul_assoc]
  rw [e1]; omega
theorem part_range (X : Int) (i : Nat) : 0 ≤ part X i ∧ part X i < Dd.S i := by
  have h1 := Dd.S_pos i
  have e : part X i = X % Dd.S i := by
    have := Int.mul_ediv_add_emod X (Dd.S i)
    unfold part Dd.qt; rw [Int.mul_comm]; omega
  rw [e]
  exact ⟨Int.emod_nonneg X (Int.ne_of_gt h1), Int.emod_lt_of_pos X h1⟩
theorem part_end (X : Int) {n j : Nat} (h : j < n) : Wd.lmb (part X (4 * n)) j = Wd.lmb X j := by
  unfold part
  have e : X - Dd.qt X (4 * n) * Dd.S (4 * n) = X + -(Dd.qt X (4 * n)) * Wd.S n := by rw [SS, Int.neg_mul]; omega
  rw [e, Wd.lmb_cong _ _ h]
/-- one digit more: limb a grows, the others stay -/
theorem part_other (X : Int) (a b j : Nat) (hb : b < 4) (hj : j ≠ a) : Wd.lmb (part X (4 * a + b)) j = Wd.lmb (part X (4 * a + b + 1)) j := by
  have hs : Dd.lmb X (4 * a + b) * Dd.S (4 * a + b) = (Dd.lmb X (4 * a + b) * Dd.S b) * Wd.S a := by rw [Dd.S_add, SS, Int.mul_assoc, Int.mul_comm (Dd.S b)]
  rcases (by omega : j < a ∨ a < j) with h | h
  · rw [part_succ, hs, Wd.lmb_cong _ _ h]
  · have z : ∀ i, i ≤ 4 * j → Wd.lmb (part X i) j = 0 := fun i hi => by
      have h1 := part_range X i
      have h2 := Dd.S_le hi
      rw [SS] at h2
      unfold Wd.lmb Wd.qt
      rw [Int.ediv_eq_zero_of_lt h1.1 (by omega)]; rfl
    rw [z _ (by omega), z _ (by omega)]
theorem S_small {b : Nat} (hb : b < 4) : 1 ≤ Dd.S b ∧ Dd.S b ≤ 281474976710656 := by
  match b, hb with
  | 0, _ => exact ⟨by decide, by decide⟩
  | 1, _ => exact ⟨by decide, by decide⟩
  | 2, _ => exact ⟨by decide, by decide⟩
  | 3, _ => exact ⟨by decide, by decide⟩
theorem part_at (X : Int) (a b : Nat) (hb : b < 4) : Wd.lmb (part X (4 * a + b)) a + Dd.lmb X (4 * a + b) * Dd.S b = Wd.lmb (part X (4 * a + b + 1)) a ∧
    0 ≤ Wd.lmb (part X (4 * a + b)) a ∧ Wd.lmb (part X (4 * a + b)) a + Dd.lmb X (4 * a + b) * Dd.S b ≤ 18446744073709551615 ∧ 0 ≤ Dd.lmb X (4 * a + b) * Dd.S b := by
  have hs : Dd.lmb X (4 * a + b) * Dd.S (4 * a + b) = (Dd.lmb X (4 * a + b) * Dd.S b) * Wd.S a := by rw [Dd.S_add, SS, Int.mul_assoc, Int.mul_comm (Dd.S b)]
  have h1 := part_range X (4 * a + b)
  have h2 := part_range X (4 * a + b + 1)
  have hSa := Wd.S_pos a
  have hSb := S_small hb
  have hd := Dd.lmb_range X (4 * a + b)
  have hm : 0 ≤ Dd.lmb X (4 * a + b) * Dd.S b := Int.mul_nonneg hd.1 (by omega)
  have e0 : 0 ≤ Wd.qt (part X (4 * a + b)) a := Int.ediv_nonneg h1.1 (Int.le_of_lt hSa)
  have e1 : Wd.qt (part X (4 * a + b + 1)) a = Wd.qt (part X (4 * a + b)) a + Dd.lmb X (4 * a + b) * Dd.S b := by rw [part_succ, hs, Wd.qt_add_mul]
  have e2 : Wd.qt (part X (4 * a + b + 1)) a < 18446744073709551616 := by
    refine Int.ediv_lt_of_lt_mul hSa ?_
    have h3 : Dd.S (4 * a + b + 1) ≤ Dd.S (4 * (a + 1)) := Dd.S_le (by omega)
    rw [SS, Wd.S_succ] at h3
    omega
  unfold Wd.lmb
  rw [e1] at *
  omega
theorem add_S_fits {x : Int} {k K : Nat} (hd : Dd.Dg k x.natAbs) (hk : k ≤ K) (hx : x < 0) : 0 ≤ x + Dd.S K ∧ x + Dd.S K < Dd.S K := by
  have h := Dd.fits_mono hd.1 hk
  unfold Dd.Fits at h; omega

end Go.Proofs.YtoikcgmdlccdbaaDoor
