/- Contracts of limb.is (whether slices have 1 to 8 elements), for one and for two slices. -/
import Derived.Test.YtoikcgmdlccdbaaDoorWords
import Derived.Test.YtoikcgmdlccdbaaDoorMem
namespace Go.Proofs.YtoikcgmdlccdbaaDoor
set_option linter.unusedVariables false
set_option linter.unusedSimpArgs false
open Go.RowKit Wd

def isN (n : Nat) : Bool := decide (1 ≤ n ∧ n ≤ 8)
theorem isN_true {n : Nat} (h : isN n = true) : 1 ≤ n ∧ n ≤ 8 := by simpa [isN] using h
theorem isN_false {n : Nat} (h : isN n = false) : n < 1 ∨ 8 < n := by simp [isN] at h; omega

theorem limb_is1 (bb : Nat) (A : Option Addr) (n c : Nat) (hn : n ≤ maxLen) (w : World) (h0 : w.cell? ⟨bb, 0, none⟩ = some (.slice A n c)) :
    Calls Tryd.prog 90 #[.slice (some ⟨bb, 0, none⟩) 1 1] w fun e w' => e = .returned (.bool (isN n)) ∧ w = w' := by
  unfold maxLen at hn
  rcases (by omega : n < 1 ∨ (1 ≤ n ∧ n ≤ 8) ∨ 8 < n) with h | h | h
  · rw [show isN n = false from by simp [isN]; omega]
    go_enter Tryd.func90, Tryd.ntmps90
    go_wp2
    refine wp_loop_rounds 2 ?_
    rw [rounds_succ]
    go_wp2
    go_ret
    exact ⟨rfl, rfl⟩
  · rw [show isN n = true from by simp [isN]; omega]
    go_enter Tryd.func90, Tryd.ntmps90
    go_wp2
    refine wp_loop_rounds 2 ?_
    rw [rounds_succ]
    go_wp2
    rw [rounds_succ]
    go_wp2
    go_ret
    exact ⟨rfl, rfl⟩
  · rw [show isN n = false from by simp [isN]; omega]
    go_enter Tryd.func90, Tryd.ntmps90
    go_wp2
    refine wp_loop_rounds 2 ?_
    rw [rounds_succ]
    go_wp2
    go_ret
    exact ⟨rfl, rfl⟩

set_option maxHeartbeats 400000 in
theorem limb_is2 (bb : Nat) (A A' : Option Addr) (n c m c' : Nat) (hn : n ≤ maxLen) (hm : m ≤ maxLen) (w : World) (h0 : w.cell? ⟨bb, 0, none⟩ = some (.slice A n c)) (h1 : w.cell? ⟨bb, 1, none⟩ = some (.slice A' m c')) :
    Calls Tryd.prog 90 #[.slice (some ⟨bb, 0, none⟩) 2 2] w fun e w' => e = .returned (.bool (isN n && isN m)) ∧ w = w' := by
  unfold maxLen at hn hm
  rcases (by omega : n < 1 ∨ 8 < n ∨ ((1 ≤ n ∧ n ≤ 8) ∧ m < 1) ∨ ((1 ≤ n ∧ n ≤ 8) ∧ 8 < m) ∨ ((1 ≤ n ∧ n ≤ 8) ∧ 1 ≤ m ∧ m ≤ 8)) with h | h | h | h | h
  · rw [show (isN n && isN m) = false from by simp [isN]; omega]
    go_enter Tryd.func90, Tryd.ntmps90
    go_wp2
    refine wp_loop_rounds 3 ?_
    rw [rounds_succ]
    go_wp2
    go_ret
    exact ⟨rfl, rfl⟩
  · rw [show (isN n && isN m) = false from by simp [isN]; omega]
    go_enter Tryd.func90, Tryd.ntmps90
    go_wp2
    refine wp_loop_rounds 3 ?_
    rw [rounds_succ]
    go_wp2
    go_ret
    exact ⟨rfl, rfl⟩
  · rw [show (isN n && isN m) = false from by simp [isN]; omega]
    go_enter Tryd.func90, Tryd.ntmps90
    go_wp2
    refine wp_loop_rounds 3 ?_
    rw [rounds_succ]
    go_wp2
    rw [rounds_succ]
    go_wp2
    go_ret
    exact ⟨rfl, rfl⟩
  · rw [show (isN n && isN m) = false from by simp [isN]; omega]
    go_enter Tryd.func90, Tryd.ntmps90
    go_wp2
    refine wp_loop_rounds 3 ?_
    rw [rounds_succ]
    go_wp2
    rw [rounds_succ]
    go_wp2
    go_ret
    exact ⟨rfl, rfl⟩
  · rw [show (isN n && isN m) = true from by simp [isN]; omega]
    go_enter Tryd.func90, Tryd.ntmps90
    go_wp2
    refine wp_loop_rounds 3 ?_
    rw [rounds_succ]
    go_wp2
    rw [rounds_succ]
    go_wp2
    rw [rounds_succ]
    go_wp2
    go_ret
    exact ⟨rfl, rfl⟩
end Go.Proofs.YtoikcgmdlccdbaaDoor
