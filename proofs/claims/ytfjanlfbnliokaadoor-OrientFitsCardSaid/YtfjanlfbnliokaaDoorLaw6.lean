/- Contracts of the helpers of layer 6's laws: alive, shift. -/
import Derived.Test.YtfjanlfbnliokaaDoorOrient
import Derived.Test.YtfjanlfbnliokaaDoorRef6
import Derived.Test.YtfjanlfbnliokaaDoorRef3d
import Derived.Test.YtfjanlfbnliokaaDoorRef3f
import Derived.Test.YtfjanlfbnliokaaDoorRef3g
namespace Go.Proofs.YtfjanlfbnliokaaDoor
set_option linter.unusedVariables false
set_option linter.unusedSimpArgs false
open Go.RowKit Wd

theorem wrap_sg (x : Int) : IntKind.i64.wrap (sg x) = sg x := by have := sign_range x; rw [IntKind.wrap_i64]; omega
theorem sg_zero : sg 0 = 0 := rfl
theorem sg_posB (x : Int) : decide (0 < sg x) = decide (0 < x) := by
  unfold sg; rcases (by omega : x < 0 ∨ x = 0 ∨ 0 < x) with h | h | h
  · rw [Int.sign_eq_neg_one_of_neg h]; simp; omega
  · subst h; rfl
  · rw [Int.sign_eq_one_of_pos h]; simp; omega
theorem sg_zeroB (x : Int) : (sg x == 0) = decide (x = 0) := by
  unfold sg; rcases (by omega : x < 0 ∨ x = 0 ∨ 0 < x) with h | h | h
  · rw [Int.sign_eq_neg_one_of_neg h]; simp; omega
  · subst h; rfl
  · rw [Int.sign_eq_one_of_pos h]; simp; omega
theorem det_swap (ax ay bx b_ cx cy : Int) : det ax ay bx b_ cx cy + det bx b_ ax ay cx cy = 0 := by unfold det; grind
theorem det_rot (ax ay bx b_ cx cy : Int) : det bx b_ cx cy ax ay = det ax ay bx b_ cx cy := by unfold det; grind
theorem det_rot2 (ax ay bx b_ cx cy : Int) : det cx cy ax ay bx b_ = det ax ay bx b_ cx cy := by unfold det; grind
theorem sg_neg (x : Int) : sg (-x) = -(sg x) := by unfold sg; rw [Int.sign_neg]
theorem sg_swap (ax ay bx b_ cx cy : Int) : sg (det ax ay cx cy bx b_) = -(sg (det ax ay bx b_ cx cy)) := by rw [← sg_neg]; congr 1; unfold det; grind
theorem p3_oxy : P3 0 0 1 0 0 1 := by constructor <;> (unfold IsI; omega)
theorem p3_oyx : P3 0 0 0 1 1 0 := by constructor <;> (unfold IsI; omega)
theorem p3_big : P3 0 0 4611686018427387904 4611686018427387904 (-9223372036854775808) (-9223372036854775808) := by constructor <;> (unfold IsI; omega)
theorem sg_oxy : sg (det 0 0 1 0 0 1) = 1 := by decide
theorem sg_oyx : sg (det 0 0 0 1 1 0) = -1 := by decide
theorem sg_big : sg (det 0 0 4611686018427387904 4611686018427387904 (-9223372036854775808) (-9223372036854775808)) = 0 := by decide
theorem left_oxy : msk (decide (0 < det 0 0 1 0 0 1)) = 18446744073709551615 := by decide
theorem coll_oxy : msk (decide (det 0 0 1 0 0 1 = 0)) = 0 := by decide
theorem sl_three (w : World) (a b c : Int) (t : TypeId) (f : Nat → Int) (h0 : f 0 = a) (h1 : f 1 = b) (h2 : f 2 = c) : Sl (w.alloc (.cells #[.int .u64 a, .int .u64 b, .int .u64 c] t)) .u64 (some ⟨w.heap.size, 0, none⟩) 3 3 f :=
  ⟨Nat.le_refl _, by decide, fun _ => ⟨w.heap.size, 0, rfl, by simp, fun i hi => by
    rcases (by omega : i = 0 ∨ i = 1 ∨ i = 2) with h | h | h
    · subst h; simp [go_sem, h0]
    · subst h; simp [go_sem, h1]
    · subst h; simp [go_sem, h2]⟩⟩
set_option maxHeartbeats 4000000 in
theorem alive6 (w : World) (hT : TabM w) (hO : TabO w) :
    Calls Tryd.prog 16 #[] w fun e w' => e = .returned (.bool true) ∧ Below w.heap.size w w' := by
  have HB0 := Lib.hid (Below.refl w.heap.size w)
  have FT := Lib.hid hT
  have FW := Lib.hid hO
  clear hT hO
  go_enter Tryd.func16, Tryd.ntmps16
  go_wp2_with fail
  have B : Below w.heap.size w (((w.alloc (.cells #[.int .i64 0, .int .i64 0] 23)).alloc (.cells #[.int .i64 1, .int .i64 0] 23)).alloc (.cells #[.int .i64 0, .int .i64 1] 23)) := (((HB0.out.alloc HB0.out.size _).alloc (HB0.out.alloc HB0.out.size _).size _).alloc ((HB0.out.alloc HB0.out.size _).alloc (HB0.out.alloc HB0.out.size _).size _).size _)
  have C : Below w.heap.size w (((w.alloc (.cells #[.int .i64 0, .int .i64 0] 23)).alloc (.cells #[.int .i64 1, .int .i64 0] 23)).alloc (.cells #[.int .i64 0, .int .i64 1] 23)) := ((((Below.refl w.heap.size w).alloc (Nat.le_refl _) _).alloc (by simp; try omega) _).alloc (by simp; try omega) _)
  have X0 : Bx (((w.alloc (.cells #[.int .i64 0, .int .i64 0] 23)).alloc (.cells #[.int .i64 1, .int .i64 0] 23)).alloc (.cells #[.int .i64 0, .int .i64 1] 23)) (w.heap.size) #[.int .i64 0, .int .i64 0] 23 := by simpa using (((Bx.new w #[.int .i64 0, .int .i64 0] 23).alloc _).alloc _)
  have X1 : Bx (((w.alloc (.cells #[.int .i64 0, .int .i64 0] 23)).alloc (.cells #[.int .i64 1, .int .i64 0] 23)).alloc (.cells #[.int .i64 0, .int .i64 1] 23)) (w.heap.size + 1) #[.int .i64 1, .int .i64 0] 23 := by simpa using ((Bx.new (w.alloc (.cells #[.int .i64 0, .int .i64 0] 23)) #[.int .i64 1, .int .i64 0] 23).alloc _)
  have X2 : Bx (((w.alloc (.cells #[.int .i64 0, .int .i64 0] 23)).alloc (.cells #[.int .i64 1, .int .i64 0] 23)).alloc (.cells #[.int .i64 0, .int .i64 1] 23)) (w.heap.size + 1 + 1) #[.int .i64 0, .int .i64 1] 23 := by simpa using (Bx.new ((w.alloc (.cells #[.int .i64 0, .int .i64 0] 23)).alloc (.cells #[.int .i64 1, .int .i64 0] 23)) #[.int .i64 0, .int .i64 1] 23)
  have FT_1 := Lib.hid (FT.out.below C (Nat.le_refl _))
  have FW_1 := Lib.hid (FW.out.below C (Nat.le_refl _))
  have HB1 := Lib.hid B
  have FO_1 := Lib.hid X0
  have FX_1 := Lib.hid X1
  have FY_1 := Lib.hid X2
  clear B C X0 X1 X2 HB0 FT FW
  generalize (((w.alloc (.cells #[.int .i64 0, .int .i64 0] 23)).alloc (.cells #[.int .i64 1, .int .i64 0] 23)).alloc (.cells #[.int .i64 0, .int .i64 1] 23)) = w1 at *
  have vO0 := FO_1.out.cell 0 (v := .int .i64 0) rfl
  have vO1 := FO_1.out.cell 1 (v := .int .i64 0) rfl
  have vX0 := FX_1.out.cell 0 (v := .int .i64 1) rfl
  have vX1 := FX_1.out.cell 1 (v := .int .i64 0) rfl
  have vY0 := FY_1.out.cell 0 (v := .int .i64 0) rfl
  have vY1 := FY_1.out.cell 1 (v := .int .i64 1) rfl
  go_wp2_with fail
  refine (orient_Sign 0 0 1 0 0 1 p3_oxy _ FT_1.out).mono ?_
  rintro e w2 ⟨rfl, B⟩
  clear vO0 vO1 vX0 vX1 vY0 vY1
  have HB2 := Lib.hid (HB1.out.trans (B.mono HB1.out.size))
  have FT_2 := Lib.hid (FT_1.out.below B (Nat.le_refl _))
  have FW_2 := Lib.hid (FW_1.out.below B (Nat.le_refl _))
  have FO_2 := Lib.hid (FO_1.out.below B (Nat.le_refl _))
  have FX_2 := Lib.hid (FX_1.out.below B (Nat.le_refl _))
  have FY_2 := Lib.hid (FY_1.out.below B (Nat.le_refl _))
  clear B  HB1 FT_1 FW_1 FO_1 FX_1 FY_1
  rw [sg_oxy]
  have vO0 := FO_2.out.cell 0 (v := .int .i64 0) rfl
  have vO1 := FO_2.out.cell 1 (v := .int .i64 0) rfl
  have vX0 := FX_2.out.cell 0 (v := .int .i64 1) rfl
  have vX1 := FX_2.out.cell 1 (v := .int .i64 0) rfl
  have vY0 := FY_2.out.cell 0 (v := .int .i64 0) rfl
  have vY1 := FY_2.out.cell 1 (v := .int .i64 1) rfl
  go_wp2_with fail
  refine (orient_Sign 0 0 0 1 1 0 p3_oyx _ FT_2.out).mono ?_
  rintro e w3 ⟨rfl, B⟩
  clear vO0 vO1 vX0 vX1 vY0 vY1
  have HB3 := Lib.hid (HB2.out.trans (B.mono HB2.out.size))
  have FT_3 := Lib.hid (FT_2.out.below B (Nat.le_refl _))
  have FW_3 := Lib.hid (FW_2.out.below B (Nat.le_refl _))
  have FO_3 := Lib.hid (FO_2.out.below B (Nat.le_refl _))
  have FX_3 := Lib.hid (FX_2.out.below B (Nat.le_refl _))
  have FY_3 := Lib.hid (FY_2.out.below B (Nat.le_refl _))
  clear B  HB2 FT_2 FW_2 FO_2 FX_2 FY_2
  rw [sg_oyx]
  have vO0 := FO_3.out.cell 0 (v := .int .i64 0) rfl
  have vO1 := FO_3.out.cell 1 (v := .int .i64 0) rfl
  have vX0 := FX_3.out.cell 0 (v := .int .i64 1) rfl
  have vX1 := FX_3.out.cell 1 (v := .int .i64 0) rfl
  have vY0 := FY_3.out.cell 0 (v := .int .i64 0) rfl
  have vY1 := FY_3.out.cell 1 (v := .int .i64 1) rfl
  go_wp2_with fail
  refine (orient_Sign 0 0 4611686018427387904 4611686018427387904 (-9223372036854775808) (-9223372036854775808) p3_big _ FT_3.out).mono ?_
  rintro e w4 ⟨rfl, B⟩
  clear vO0 vO1 vX0 vX1 vY0 vY1
  have HB4 := Lib.hid (HB3.out.trans (B.mono HB3.out.size))
  have FT_4 := Lib.hid (FT_3.out.below B (Nat.le_refl _))
  have FW_4 := Lib.hid (FW_3.out.below B (Nat.le_refl _))
  have FO_4 := Lib.hid (FO_3.out.below B (Nat.le_refl _))
  have FX_4 := Lib.hid (FX_3.out.below B (Nat.le_refl _))
  have FY_4 := Lib.hid (FY_3.out.below B (Nat.le_refl _))
  clear B  HB3 FT_3 FW_3 FO_3 FX_3 FY_3
  rw [sg_big]
  have vO0 := FO_4.out.cell 0 (v := .int .i64 0) rfl
  have vO1 := FO_4.out.cell 1 (v := .int .i64 0) rfl
  have vX0 := FX_4.out.cell 0 (v := .int .i64 1) rfl
  have vX1 := FX_4.out.cell 1 (v := .int .i64 0) rfl
  have vY0 := FY_4.out.cell 0 (v := .int .i64 0) rfl
  have vY1 := FY_4.out.cell 1 (v := .int .i64 1) rfl
  go_wp2_with fail
  refine (orient_Value 0 0 1 0 0 1 p3_oxy _).mono ?_
  rintro e w5 ⟨⟨U, u, rfl, SU⟩, B⟩
  clear vO0 vO1 vX0 vX1 vY0 vY1
  have HB5 := Lib.hid (HB4.out.trans (B.mono HB4.out.size))
  have FT_5 := Lib.hid (FT_4.out.below B (Nat.le_refl _))
  have FW_5 := Lib.hid (FW_4.out.below B (Nat.le_refl _))
  have FO_5 := Lib.hid (FO_4.out.below B (Nat.le_refl _))
  have FX_5 := Lib.hid (FX_4.out.below B (Nat.le_refl _))
  have FY_5 := Lib.hid (FY_4.out.below B (Nat.le_refl _))
  have FV_5 := Lib.hid SU
  clear B SU HB4 FT_4 FW_4 FO_4 FX_4 FY_4
  have vO0 := FO_5.out.cell 0 (v := .int .i64 0) rfl
  have vO1 := FO_5.out.cell 1 (v := .int .i64 0) rfl
  have vX0 := FX_5.out.cell 0 (v := .int .i64 1) rfl
  have vX1 := FX_5.out.cell 1 (v := .int .i64 0) rfl
  have vY0 := FY_5.out.cell 0 (v := .int .i64 0) rfl
  have vY1 := FY_5.out.cell 1 (v := .int .i64 1) rfl
  go_wp2_with fail
  refine (ref3_Same U _ 3 u 3 _ (lmb (det 0 0 1 0 0 1)) _ (FV_5.out.alloc _) (sl_three _ _ _ _ _ _ (by decide) (by decide) (by decide)) (fun _ _ => rfl)).mono ?_
  rintro e w6 ⟨rfl, B⟩
  clear vO0 vO1 vX0 vX1 vY0 vY1
  have HB6 := Lib.hid ((HB5.out.alloc HB5.out.size _).trans (B.mono (HB5.out.alloc HB5.out.size _).size))
  have FT_6 := Lib.hid ((FT_5.out.alloc _).below B (Nat.le_refl _))
  have FW_6 := Lib.hid ((FW_5.out.alloc _).below B (Nat.le_refl _))
  have FO_6 := Lib.hid ((FO_5.out.alloc _).below B (Nat.le_refl _))
  have FX_6 := Lib.hid ((FX_5.out.alloc _).below B (Nat.le_refl _))
  have FY_6 := Lib.hid ((FY_5.out.alloc _).below B (Nat.le_refl _))
  have FV_6 := Lib.hid ((FV_5.out.alloc _).below B (Nat.le_refl _))
  clear B  HB5 FT_5 FW_5 FO_5 FX_5 FY_5 FV_5
  have vO0 := FO_6.out.cell 0 (v := .int .i64 0) rfl
  have vO1 := FO_6.out.cell 1 (v := .int .i64 0) rfl
  have vX0 := FX_6.out.cell 0 (v := .int .i64 1) rfl
  have vX1 := FX_6.out.cell 1 (v := .int .i64 0) rfl
  have vY0 := FY_6.out.cell 0 (v := .int .i64 0) rfl
  have vY1 := FY_6.out.cell 1 (v := .int .i64 1) rfl
  go_wp2_with fail
  refine (orient_Left 0 0 1 0 0 1 p3_oxy _ FT_6.out FW_6.out).mono ?_
  rintro e w7 ⟨rfl, B⟩
  clear vO0 vO1 vX0 vX1 vY0 vY1
  have HB7 := Lib.hid (HB6.out.trans (B.mono HB6.out.size))
  have FT_7 := Lib.hid (FT_6.out.below B (Nat.le_refl _))
  have FW_7 := Lib.hid (FW_6.out.below B (Nat.le_refl _))
  have FO_7 := Lib.hid (FO_6.out.below B (Nat.le_refl _))
  have FX_7 := Lib.hid (FX_6.out.below B (Nat.le_refl _))
  have FY_7 := Lib.hid (FY_6.out.below B (Nat.le_refl _))
  clear B  HB6 FT_6 FW_6 FO_6 FX_6 FY_6
  rw [left_oxy]
  have vO0 := FO_7.out.cell 0 (v := .int .i64 0) rfl
  have vO1 := FO_7.out.cell 1 (v := .int .i64 0) rfl
  have vX0 := FX_7.out.cell 0 (v := .int .i64 1) rfl
  have vX1 := FX_7.out.cell 1 (v := .int .i64 0) rfl
  have vY0 := FY_7.out.cell 0 (v := .int .i64 0) rfl
  have vY1 := FY_7.out.cell 1 (v := .int .i64 1) rfl
  go_wp2_with fail
  refine (orient_Collinear 0 0 1 0 0 1 p3_oxy _ FT_7.out FW_7.out).mono ?_
  rintro e w8 ⟨rfl, B⟩
  clear vO0 vO1 vX0 vX1 vY0 vY1
  have HB8 := Lib.hid (HB7.out.trans (B.mono HB7.out.size))
  have FT_8 := Lib.hid (FT_7.out.below B (Nat.le_refl _))
  have FW_8 := Lib.hid (FW_7.out.below B (Nat.le_refl _))
  have FO_8 := Lib.hid (FO_7.out.below B (Nat.le_refl _))
  have FX_8 := Lib.hid (FX_7.out.below B (Nat.le_refl _))
  have FY_8 := Lib.hid (FY_7.out.below B (Nat.le_refl _))
  clear B  HB7 FT_7 FW_7 FO_7 FX_7 FY_7
  rw [coll_oxy]
  have vO0 := FO_8.out.cell 0 (v := .int .i64 0) rfl
  have vO1 := FO_8.out.cell 1 (v := .int .i64 0) rfl
  have vX0 := FX_8.out.cell 0 (v := .int .i64 1) rfl
  have vX1 := FX_8.out.cell 1 (v := .int .i64 0) rfl
  have vY0 := FY_8.out.cell 0 (v := .int .i64 0) rfl
  have vY1 := FY_8.out.cell 1 (v := .int .i64 1) rfl
  go_wp2_with fail
  go_ret
  exact ⟨rfl, HB8.out⟩

end Go.Proofs.YtfjanlfbnliokaaDoor
