/- Contracts of the helpers of layer 3's laws: alive, long, binary. -/
import Derived.Test.YteadkjbdbljbfaaDoorRef3g
import Derived.Test.YteadkjbdbljbfaaDoorLimb3
import Derived.Test.YteadkjbdbljbfaaDoorLimb4
namespace Go.Proofs.YteadkjbdbljbfaaDoor
set_option linter.unusedVariables false
set_option linter.unusedSimpArgs false
open Go.RowKit Wd

theorem sl_two (w : World) (a b : Int) (t : TypeId) (f : Nat → Int) (h0 : f 0 = a) (h1 : f 1 = b) : Sl (w.alloc (.cells #[.int .u64 a, .int .u64 b] t)) .u64 (some ⟨w.heap.size, 0, none⟩) 2 2 f :=
  ⟨Nat.le_refl _, by decide, fun _ => ⟨w.heap.size, 0, rfl, by simp, fun i hi => by
    rcases (by omega : i = 0 ∨ i = 1) with h | h
    · subst h; simp [go_sem, h0]
    · subst h; simp [go_sem, h1]⟩⟩

theorem al3_From1 (w : World) : Calls Tryd.prog 12 #[.int .i64 (-1), .int .i64 2] w fun e w' => ∃ A' c', e = .returned (.slice A' 2 c') ∧ Sl w' .u64 A' 2 c' (lmb (-1)) ∧ Below w.heap.size w w' :=
  limb_From (-1) 2 2 rfl (by unfold IsI; omega) rfl w
theorem al3_From2 (w : World) : Calls Tryd.prog 12 #[.int .i64 (-2), .int .i64 1] w fun e w' => ∃ A' c', e = .returned (.slice A' 1 c') ∧ Sl w' .u64 A' 1 c' (lmb (-2)) ∧ Below w.heap.size w w' :=
  limb_From (-2) 1 1 rfl (by unfold IsI; omega) rfl w
theorem al3_From3 (w : World) : Calls Tryd.prog 12 #[.int .i64 3, .int .i64 1] w fun e w' => ∃ A' c', e = .returned (.slice A' 1 c') ∧ Sl w' .u64 A' 1 c' (lmb 3) ∧ Below w.heap.size w w' :=
  limb_From 3 1 1 rfl (by unfold IsI; omega) rfl w
theorem top2 : lmb (-170141183460469231731687303715884105728) 0 = 0 ∧ lmb (-170141183460469231731687303715884105728) 1 = 9223372036854775808 := by decide
theorem fit_top2 : Fit 2 (-170141183460469231731687303715884105728) := by unfold Fit; decide
theorem fit_2 : Fit 1 (-2) := by unfold Fit; decide
theorem fit_3 : Fit 1 3 := by unfold Fit; decide

set_option maxHeartbeats 4000000 in
theorem alive3 (w : World) (hT : TabM w) : Calls Tryd.prog 11 #[] w fun e w' => e = .returned (.bool true) ∧ Below w.heap.size w w' := by
  have HT := Lib.hid hT; clear hT
  go_enter Tryd.func11, Tryd.ntmps11
  go_wp2_with (first
    | (go_at_call 12; refine (al3_From1 _).mono ?_; rintro e w1 ⟨A1, c1, rfl, S1, B1⟩; have HS1 := Lib.hid S1; have HB1 := Lib.hid B1; clear S1 B1)
    | (go_at_call 14; refine (ref3_Same A1 _ 2 c1 2 _ (lmb (-1)) _ (Sl.alloc HS1.out _) (sl_two _ _ _ _ _ (by decide) (by decide)) (fun _ _ => rfl)).mono ?_; rintro e w2 ⟨rfl, B2⟩; have HB2 := Lib.hid ((HB1.out.alloc HB1.out.size _).trans (B2.mono (HB1.out.alloc HB1.out.size _).size)); clear B2 HS1)
    | (go_at_call 12; refine (al3_From2 _).mono ?_; rintro e w3 ⟨A3, c3, rfl, S3, B3⟩; have HS3 := Lib.hid S3; have HB3 := Lib.hid (HB2.out.trans (B3.mono HB2.out.size)); clear S3 B3)
    | (go_at_call 12; refine (al3_From3 _).mono ?_; rintro e w4 ⟨A4, c4, rfl, S4, B4⟩; have HS4 := Lib.hid S4; have HS5 := Lib.hid (HS3.out.below B4 (Nat.le_refl _)); have HB4 := Lib.hid (HB3.out.trans (B4.mono HB3.out.size)); clear S4 B4)
    | (go_at_call 19; refine (limb_Mul A3 A4 1 c3 1 c4 (-2) 3 _ HS5.out HS4.out fit_2 fit_3 rfl rfl (by omega)).mono ?_; rintro e w6 ⟨A6, c6, rfl, S6, B6⟩; have HS6 := Lib.hid S6; have HB6 := Lib.hid (HB4.out.trans (B6.mono HB4.out.size)); clear S6 B6)
    | (go_at_call 14; refine (ref3_Same A6 _ 2 c6 2 _ (lmb (-2 * 3)) _ (Sl.alloc HS6.out _) (sl_two _ _ _ _ _ (by decide) (by decide)) (fun _ _ => rfl)).mono ?_; rintro e w7 ⟨rfl, B7⟩; have HB7 := Lib.hid ((HB6.out.alloc HB6.out.size _).trans (B7.mono (HB6.out.alloc HB6.out.size _).size)); clear B7 HS6)
    | (go_at_call 28; refine (limb_Sign _ 2 2 (-170141183460469231731687303715884105728) _ (sl_two _ _ _ _ _ top2.1 top2.2) fit_top2 rfl (HT.out.below (HB7.out.alloc HB7.out.size _) (Nat.le_refl _))).mono ?_; rintro e w8 ⟨rfl, B8⟩; rw [show sg (-170141183460469231731687303715884105728) = -1 from rfl]; have HB8 := Lib.hid ((HB7.out.alloc HB7.out.size _).trans (B8.mono (HB7.out.alloc HB7.out.size _).size)); clear B8))
  go_ret
  exact ⟨rfl, HB8.out⟩

/-- some slice of the list is longer than 50 -/
def lng (n : Nat) : Bool := decide (50 < n)
theorem law_long1 (bb : Nat) (A : Option Addr) (n c : Nat) (hn : n ≤ maxLen) (w : World) (h0 : w.cell? ⟨bb, 0, none⟩ = some (.slice A n c)) :
    Calls Tryd.prog 10 #[.slice (some ⟨bb, 0, none⟩) 1 1] w fun e w' => e = .returned (.bool (lng n)) ∧ w = w' := by
  unfold maxLen at hn
  by_cases h : 50 < n
  · rw [show lng n = true from by simp [lng, h]]
    have hd : decide (50 < (n : Int)) = true := by simp; omega
    go_enter Tryd.func10, Tryd.ntmps10
    go_wp2_with fail
    go_loop [7] (fun i => i = .int .i64 0) (fun i => 1 - (intOf i).toNat)
    case atStart => rfl
    case round =>
      subst hrel
      go_wp2_with fail
      go_ret
      exact ⟨rfl, rfl⟩
  · rw [show lng n = false from by simp [lng, h]]
    have hd : decide (50 < (n : Int)) = false := by simp; omega
    go_enter Tryd.func10, Tryd.ntmps10
    go_wp2_with fail
    go_loop [7] (fun i => i = .int .i64 0 ∨ i = .int .i64 1) (fun i => 1 - (intOf i).toNat)
    case atStart => exact .inl rfl
    case round =>
      rcases hrel with rfl | rfl
      · go_wp2_with fail
        go_round
        case rel => exact .inr rfl
        case measure => simp [intOf]
      · go_wp2_with fail
        go_ret
        exact ⟨rfl, rfl⟩
end Go.Proofs.YteadkjbdbljbfaaDoor
