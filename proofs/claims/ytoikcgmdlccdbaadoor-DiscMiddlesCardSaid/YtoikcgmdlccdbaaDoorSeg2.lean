/- Contracts of segment.Within and of its reference. -/
import Derived.Test.YtoikcgmdlccdbaaDoorSeg1
namespace Go.Proofs.YtoikcgmdlccdbaaDoor
set_option linter.unusedVariables false
set_option linter.unusedSimpArgs false
open Go.RowKit Wd

def withB (a b x : Int) : Bool := decide ((a ≤ x ∧ x ≤ b) ∨ (b ≤ x ∧ x ≤ a))
theorem with_mask (a b x : Int) : ((decide (x < a) != decide (x < b)) || decide (x = a) || decide (x = b)) = withB a b x := by
  unfold withB
  by_cases h1 : x < a <;> by_cases h2 : x < b <;> by_cases h3 : x = a <;> by_cases h4 : x = b <;> simp [h1, h2, h3, h4] <;> omega
theorem eq_wrap {x a : Int} (hx : IsI x) (ha : IsI a) : decide (IntKind.u64.wrap x = IntKind.u64.wrap a) = decide (x = a) := by
  rw [decide_eq_decide, wrapU, wrapU]; unfold IsI at *; unfold lo; omega
set_option maxHeartbeats 1000000 in
theorem segment_Within (a b x : Int) (ha : IsI a) (hb : IsI b) (hx : IsI x) (w : World) (hT : TabM w) :
    Calls Tryd.prog 22 #[.int .i64 a, .int .i64 b, .int .i64 x] w fun e w' => e = .returned (.int .u64 (msk (withB a b x))) ∧ Below w.heap.size w w' := by
  have HB0 := Lib.hid (Below.refl w.heap.size w)
  have FT := Lib.hid hT
  clear hT
  have ex := xor_mm (decide (x < a)) (decide (x < b))
  have EW := Lib.hid (with_mask a b x)
  generalize hq : (decide (x < a) != decide (x < b)) = q at *
  have HQ := Lib.hid hq; clear hq
  go_enter Tryd.func22, Tryd.ntmps22
  go_wp2_with fail
  refine (mask_LessSigned x a hx ha _ FT.out).mono ?_
  rintro e w1 ⟨rfl, rfl⟩
  go_wp2_with fail
  refine (mask_LessSigned x b hx hb _ FT.out).mono ?_
  rintro e w2 ⟨rfl, rfl⟩
  go_wp2_with fail
  refine (mask_Equal _ _ (isW_wrap x) (isW_wrap a) _).mono ?_
  rintro e w3 ⟨rfl, rfl⟩
  rw [eq_wrap hx ha]
  go_wp2_with fail
  refine (mask_Equal _ _ (isW_wrap x) (isW_wrap b) _).mono ?_
  rintro e w4 ⟨rfl, rfl⟩
  rw [eq_wrap hx hb]
  go_wp2_with fail
  refine (segment_some3 _ q (decide (x = a)) (decide (x = b)) _ (by simp [go_sem]) (by simp [go_sem]) (by simp [go_sem])).mono ?_
  rintro e w5 ⟨rfl, rfl⟩
  rw [EW.out]
  go_wp2_with fail
  go_ret
  exact ⟨rfl, (HB0.out.alloc HB0.out.size _)⟩

end Go.Proofs.YtoikcgmdlccdbaaDoor
