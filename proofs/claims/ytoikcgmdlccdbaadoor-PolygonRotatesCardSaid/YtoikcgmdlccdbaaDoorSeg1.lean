/- Contracts of package mask at comparisons: Less, LessSigned, Negative. -/
import Derived.Test.YtoikcgmdlccdbaaDoorOrient
namespace Go.Proofs.YtoikcgmdlccdbaaDoor
set_option linter.unusedVariables false
set_option linter.unusedSimpArgs false
open Go.RowKit Wd

theorem mask_Less (a b : Int) (ha : IsW a) (hb : IsW b) (w : World) :
    Calls Tryd.prog 77 #[.int .u64 a, .int .u64 b] w fun e w' => e = .returned (.int .u64 (msk (decide (a < b)))) ∧ w = w' := by
  have h := less_w ha hb
  have hna : IsW (18446744073709551615 - a) := by unfold IsW at *; omega
  have hx := xor_w ha hb
  have hnx : IsW (18446744073709551615 - bits .xor .u64 a b) := by unfold IsW at *; omega
  have h3 := or_w (and_w hna hb) (and_w hnx (isW_lo (a - b)))
  have hn : IsW (bits .or .u64 (bits .and .u64 (18446744073709551615 - a) b) (bits .and .u64 (18446744073709551615 - bits .xor .u64 a b) (lo (a - b))) / 9223372036854775808) := by unfold IsW at h3 ⊢; omega
  have e : msk (decide (a < b)) = msk (decide (bits .or .u64 (bits .and .u64 (18446744073709551615 - a) b) (bits .and .u64 (18446744073709551615 - bits .xor .u64 a b) (lo (a - b))) / 9223372036854775808 % 2 = 1)) := by
    rw [h]; by_cases hab : a < b <;> simp [hab]
  rw [e]
  have HN := Lib.hid hn; have HA := Lib.hid ha; have HX := Lib.hid hx
  clear h hna hx hnx h3 hn e ha hb
  have hsg : IntKind.u64.signed = false := rfl
  go_enter Tryd.func77, Tryd.ntmps77
  go_wp2_with fail
  simp only [wrapU]
  rw [not_w HA.out, not_w HX.out]
  refine (mask_Of _ HN.out _).mono ?_
  rintro e w' ⟨rfl, rfl⟩
  go_wp2_with fail
  go_ret
  exact ⟨rfl, rfl⟩
theorem flip_I {x : Int} (hx : IsI x) : bits .xor .u64 (lo x) 9223372036854775808 = x + 9223372036854775808 := by
  rw [flip_w (isW_lo x)]; unfold IsI at hx; unfold lo; omega
theorem mask_LessSigned (x y : Int) (hx : IsI x) (hy : IsI y) (w : World) (hT : TabM w) :
    Calls Tryd.prog 54 #[.int .i64 x, .int .i64 y] w fun e w' => e = .returned (.int .u64 (msk (decide (x < y)))) ∧ w = w' := by
  have c0 := hT.1
  have hlt : 0 < w.heap.size := lt_of_cell hT.1
  have HX := Lib.hid (flip_I hx); have HY := Lib.hid (flip_I hy)
  have h1 : IsW (x + 9223372036854775808) := by unfold IsI at hx; unfold IsW; omega
  have h2 : IsW (y + 9223372036854775808) := by unfold IsI at hy; unfold IsW; omega
  have H1 := Lib.hid h1; have H2 := Lib.hid h2
  clear hx hy h1 h2 hT
  go_enter Tryd.func54, Tryd.ntmps54
  go_wp2_with fail
  simp only [wrapU]
  rw [HX.out, HY.out]
  refine (mask_Less _ _ H1.out H2.out _).mono ?_
  rintro e w' ⟨rfl, rfl⟩
  go_wp2_with fail
  go_ret
  exact ⟨rfl, rfl⟩
theorem mask_Negative (a : Int) (ha : IsI a) (w : World) :
    Calls Tryd.prog 74 #[.int .i64 a] w fun e w' => e = .returned (.int .u64 (msk (decide (a < 0)))) ∧ w = w' := by
  go_enter Tryd.func74, Tryd.ntmps74
  go_wp2
  go_ret
  refine ⟨ret1 ?_, rfl⟩
  simp only [wrapU]
  unfold IsI at ha; unfold lo msk
  by_cases h : a < 0 <;> simp [h] <;> omega
theorem and_mm (a b : Bool) : bits .and .u64 (msk a) (msk b) = msk (a && b) := by cases a <;> cases b <;> rfl
theorem or_mm (a b : Bool) : bits .or .u64 (msk a) (msk b) = msk (a || b) := by cases a <;> cases b <;> rfl
theorem xor_mm (a b : Bool) : bits .xor .u64 (msk a) (msk b) = msk (a != b) := by cases a <;> cases b <;> rfl
theorem mask_Of1 (w : World) : Calls Tryd.prog 73 #[.int .u64 1] w fun e w' => e = .returned (.int .u64 (msk true)) ∧ w = w' := mask_Of 1 (by unfold IsW; omega) w
theorem mask_Of0 (w : World) : Calls Tryd.prog 73 #[.int .u64 0] w fun e w' => e = .returned (.int .u64 (msk false)) ∧ w = w' := mask_Of 0 (by unfold IsW; omega) w
set_option maxHeartbeats 1000000 in
theorem segment_all2 (bb : Nat) (b0 : Bool) (b1 : Bool) (w : World) (h0 : w.cell? ⟨bb, 0, none⟩ = some (.int .u64 (msk b0))) (h1 : w.cell? ⟨bb, 1, none⟩ = some (.int .u64 (msk b1))) :
    Calls Tryd.prog 57 #[.slice (some ⟨bb, 0, none⟩) 2 2] w fun e w' => e = .returned (.int .u64 (msk (b0 && b1))) ∧ w = w' := by
  have e1 : bits .and .u64 (msk true) (msk b0) = msk b0 := by rw [and_mm]; cases b0 <;> rfl
  have e2 : bits .and .u64 (msk (b0)) (msk b1) = msk (b0 && b1) := and_mm _ _
  go_enter Tryd.func57, Tryd.ntmps57
  go_wp2_with fail
  refine (mask_Of1 _).mono ?_
  rintro e w' ⟨rfl, rfl⟩
  go_wp2_with fail
  refine wp_loop_rounds 3 ?_
  rw [rounds_succ]
  go_wp2_with fail
  rw [rounds_succ]
  go_wp2_with fail
  rw [rounds_succ]
  go_wp2_with fail
  go_ret
  exact ⟨rfl, rfl⟩
set_option maxHeartbeats 1000000 in
theorem segment_all3 (bb : Nat) (b0 : Bool) (b1 : Bool) (b2 : Bool) (w : World) (h0 : w.cell? ⟨bb, 0, none⟩ = some (.int .u64 (msk b0))) (h1 : w.cell? ⟨bb, 1, none⟩ = some (.int .u64 (msk b1))) (h2 : w.cell? ⟨bb, 2, none⟩ = some (.int .u64 (msk b2))) :
    Calls Tryd.prog 57 #[.slice (some ⟨bb, 0, none⟩) 3 3] w fun e w' => e = .returned (.int .u64 (msk (b0 && b1 && b2))) ∧ w = w' := by
  have e1 : bits .and .u64 (msk true) (msk b0) = msk b0 := by rw [and_mm]; cases b0 <;> rfl
  have e2 : bits .and .u64 (msk (b0)) (msk b1) = msk (b0 && b1) := and_mm _ _
  have e3 : bits .and .u64 (msk (b0 && b1)) (msk b2) = msk (b0 && b1 && b2) := and_mm _ _
  go_enter Tryd.func57, Tryd.ntmps57
  go_wp2_with fail
  refine (mask_Of1 _).mono ?_
  rintro e w' ⟨rfl, rfl⟩
  go_wp2_with fail
  refine wp_loop_rounds 4 ?_
  rw [rounds_succ]
  go_wp2_with fail
  rw [rounds_succ]
  go_wp2_with fail
  rw [rounds_succ]
  go_wp2_with fail
  rw [rounds_succ]
  go_wp2_with fail
  go_ret
  exact ⟨rfl, rfl⟩
set_option maxHeartbeats 1000000 in
theorem segment_some2 (bb : Nat) (b0 : Bool) (b1 : Bool) (w : World) (h0 : w.cell? ⟨bb, 0, none⟩ = some (.int .u64 (msk b0))) (h1 : w.cell? ⟨bb, 1, none⟩ = some (.int .u64 (msk b1))) :
    Calls Tryd.prog 55 #[.slice (some ⟨bb, 0, none⟩) 2 2] w fun e w' => e = .returned (.int .u64 (msk (b0 || b1))) ∧ w = w' := by
  have e1 : bits .or .u64 (msk false) (msk b0) = msk b0 := by rw [or_mm]; cases b0 <;> rfl
  have e2 : bits .or .u64 (msk (b0)) (msk b1) = msk (b0 || b1) := or_mm _ _
  go_enter Tryd.func55, Tryd.ntmps55
  go_wp2_with fail
  refine (mask_Of0 _).mono ?_
  rintro e w' ⟨rfl, rfl⟩
  go_wp2_with fail
  refine wp_loop_rounds 3 ?_
  rw [rounds_succ]
  go_wp2_with fail
  rw [rounds_succ]
  go_wp2_with fail
  rw [rounds_succ]
  go_wp2_with fail
  go_ret
  exact ⟨rfl, rfl⟩
set_option maxHeartbeats 1000000 in
theorem segment_some3 (bb : Nat) (b0 : Bool) (b1 : Bool) (b2 : Bool) (w : World) (h0 : w.cell? ⟨bb, 0, none⟩ = some (.int .u64 (msk b0))) (h1 : w.cell? ⟨bb, 1, none⟩ = some (.int .u64 (msk b1))) (h2 : w.cell? ⟨bb, 2, none⟩ = some (.int .u64 (msk b2))) :
    Calls Tryd.prog 55 #[.slice (some ⟨bb, 0, none⟩) 3 3] w fun e w' => e = .returned (.int .u64 (msk (b0 || b1 || b2))) ∧ w = w' := by
  have e1 : bits .or .u64 (msk false) (msk b0) = msk b0 := by rw [or_mm]; cases b0 <;> rfl
  have e2 : bits .or .u64 (msk (b0)) (msk b1) = msk (b0 || b1) := or_mm _ _
  have e3 : bits .or .u64 (msk (b0 || b1)) (msk b2) = msk (b0 || b1 || b2) := or_mm _ _
  go_enter Tryd.func55, Tryd.ntmps55
  go_wp2_with fail
  refine (mask_Of0 _).mono ?_
  rintro e w' ⟨rfl, rfl⟩
  go_wp2_with fail
  refine wp_loop_rounds 4 ?_
  rw [rounds_succ]
  go_wp2_with fail
  rw [rounds_succ]
  go_wp2_with fail
  rw [rounds_succ]
  go_wp2_with fail
  rw [rounds_succ]
  go_wp2_with fail
  go_ret
  exact ⟨rfl, rfl⟩
end Go.Proofs.YtoikcgmdlccdbaaDoor
