/- The contract of geofencelaw02.alive: the examples of the chapter hold, so it returns true; memory that was there stays as it was. -/
import Derived.Test.YteadkjbdbljbfaaSigned
namespace Go.Proofs.Yteadkjbdbljbfaa
set_option linter.unusedVariables false
set_option linter.unusedSimpArgs false
open Go.RowKit Wd

theorem al_Add (w : World) : Calls Try.prog 14 #[.int .u64 18446744073709551615, .int .u64 1, .int .u64 0] w fun e w' => e = .returned (.tuple #[.int .u64 0, .int .u64 1]) ∧ w = w' := by
  have h := word_Add 18446744073709551615 1 0 (by unfold IsW; omega) (by unfold IsW; omega) (by unfold IsW; omega) w
  rw [show lo (18446744073709551615 + 1 + 0 % 2) = 0 from by unfold lo; omega, show ((18446744073709551615 : Int) + 1 + 0 % 2) / 18446744073709551616 = 1 from by omega] at h
  exact h
theorem al_Mul (w : World) : Calls Try.prog 20 #[.int .u64 9223372036854775808, .int .u64 4] w fun e w' => e = .returned (.tuple #[.int .u64 2, .int .u64 0]) ∧ w = w' := by
  have h := word_Mul 9223372036854775808 4 (by unfold IsW; omega) (by unfold IsW; omega) w
  rw [show hi (9223372036854775808 * 4) = 2 from by unfold hi; omega, show lo (9223372036854775808 * 4) = 0 from by unfold lo; omega] at h
  exact h
theorem al_MulSigned (w : World) : Calls Try.prog 9 #[.int .i64 (-1), .int .i64 1] w fun e w' => e = .returned (.tuple #[.int .u64 18446744073709551615, .int .u64 18446744073709551615]) ∧ Below w.heap.size w w' := by
  have h := word_MulSigned (-1) 1 (by unfold IsI; omega) (by unfold IsI; omega) w
  rw [show hi (-1 * 1) = 18446744073709551615 from by unfold hi; omega, show lo (-1 * 1) = 18446744073709551615 from by unfold lo; omega] at h
  exact h
theorem al_Fill (w : World) : Calls Try.prog 12 #[.int .u64 9223372036854775808] w fun e w' => e = .returned (.int .u64 18446744073709551615) ∧ w = w' := by
  have h := word_Fill 9223372036854775808 (by unfold IsW; omega) w
  rw [show msk (decide ((9223372036854775808 : Int) ≤ 9223372036854775808)) = 18446744073709551615 from rfl] at h
  exact h
theorem alive2 (w : World) : Calls Try.prog 11 #[] w fun e w' => e = .returned (.bool true) ∧ Below w.heap.size w w' := by
  go_enter Try.func11, Try.ntmps11
  go_wp2_with (first
    | (go_at_call 14; refine (al_Add _).mono ?_; rintro e w' ⟨rfl, rfl⟩)
    | (go_at_call 20; refine (al_Mul _).mono ?_; rintro e w' ⟨rfl, rfl⟩)
    | (go_at_call 9; refine (al_MulSigned _).mono ?_; rintro e w' ⟨rfl, hb⟩)
    | (go_at_call 12; refine (al_Fill _).mono ?_; rintro e w' ⟨rfl, rfl⟩))
  go_ret
  exact ⟨rfl, hb⟩
end Go.Proofs.Yteadkjbdbljbfaa
