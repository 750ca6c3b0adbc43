/- Contracts of the helpers of layer 7's laws: alive; symmetries of the lifted determinant. -/
import Derived.Test.YtfjanlfbnliokaaDoorCircle
import Derived.Test.YtfjanlfbnliokaaDoorRef7
import Derived.Test.YtfjanlfbnliokaaDoorRef3f
import Derived.Test.YtfjanlfbnliokaaDoorRef3g
import Derived.Test.YtfjanlfbnliokaaDoorRef3d
namespace Go.Proofs.YtfjanlfbnliokaaDoor
set_option linter.unusedVariables false
set_option linter.unusedSimpArgs false
open Go.RowKit Wd

theorem p4_of (dx dy : Int) (h1 : IsI dx) (h2 : IsI dy) : P4 0 0 2 0 0 2 dx dy := by constructor <;> first | exact h1 | exact h2 | (unfold IsI; omega)
theorem isI_s {x : Int} (h0 : 0 ≤ x) (h1 : x ≤ 9) : IsI x := by unfold IsI; omega
theorem sg_zeroB' (x : Int) : (sg x == 0) = decide (x = 0) := by
  unfold sg; rcases (by omega : x < 0 ∨ x = 0 ∨ 0 < x) with h | h | h
  · rw [Int.sign_eq_neg_one_of_neg h]; simp; omega
  · subst h; rfl
  · rw [Int.sign_eq_one_of_pos h]; simp; omega
theorem side_on0 (ax ay bx b_ cx cy : Int) : sg (circ ax ay bx b_ cx cy ax ay) * sg (det ax ay bx b_ cx cy) = 0 := by
  rw [show circ ax ay bx b_ cx cy ax ay = 0 from by unfold circ nrm mnr; grind]; exact Int.zero_mul _
theorem side_on1 (ax ay bx b_ cx cy : Int) : sg (circ ax ay bx b_ cx cy bx b_) * sg (det ax ay bx b_ cx cy) = 0 := by
  rw [show circ ax ay bx b_ cx cy bx b_ = 0 from by unfold circ nrm mnr; grind]; exact Int.zero_mul _
theorem side_on2 (ax ay bx b_ cx cy : Int) : sg (circ ax ay bx b_ cx cy cx cy) * sg (det ax ay bx b_ cx cy) = 0 := by
  rw [show circ ax ay bx b_ cx cy cx cy = 0 from by unfold circ nrm mnr; grind]; exact Int.zero_mul _
theorem al7_1 : sg (circ 0 0 2 0 0 2 1 1) * sg (det 0 0 2 0 0 2) = 1 := by decide
theorem al7_2 : sg (circ 0 0 2 0 0 2 2 2) * sg (det 0 0 2 0 0 2) = 0 := by decide
theorem al7_3 : sg (circ 0 0 2 0 0 2 3 0) * sg (det 0 0 2 0 0 2) = -1 := by decide
theorem al7_4 : sg (circ 0 0 2 0 0 2 1 1) = 1 := by decide
theorem circ_swap (ax ay bx b_ cx cy dx dy : Int) : circ bx b_ ax ay cx cy dx dy = -(circ ax ay bx b_ cx cy dx dy) := by unfold circ nrm mnr; grind
theorem circ_rot (ax ay bx b_ cx cy dx dy : Int) : circ cx cy ax ay bx b_ dx dy = circ ax ay bx b_ cx cy dx dy := by unfold circ nrm mnr; grind
theorem det_swap' (ax ay bx b_ cx cy : Int) : det bx b_ ax ay cx cy = -(det ax ay bx b_ cx cy) := by unfold det; grind
theorem det_rot' (ax ay bx b_ cx cy : Int) : det cx cy ax ay bx b_ = det ax ay bx b_ cx cy := by unfold det; grind
theorem sg_neg' (x : Int) : sg (-x) = -(sg x) := by unfold sg; rw [Int.sign_neg]
theorem side_swap (ax ay bx b_ cx cy dx dy : Int) : sg (circ bx b_ ax ay cx cy dx dy) * sg (det bx b_ ax ay cx cy) = sg (circ ax ay bx b_ cx cy dx dy) * sg (det ax ay bx b_ cx cy) := by
  rw [circ_swap, det_swap', sg_neg', sg_neg', Int.neg_mul_neg]
theorem side_rot (ax ay bx b_ cx cy dx dy : Int) : sg (circ cx cy ax ay bx b_ dx dy) * sg (det cx cy ax ay bx b_) = sg (circ ax ay bx b_ cx cy dx dy) * sg (det ax ay bx b_ cx cy) := by
  rw [circ_rot, det_rot']
set_option maxHeartbeats 4000000 in
theorem alive7 (w : World) (hT : TabM w) :
    Calls Tryd.prog 30 #[] w fun e w' => e = .returned (.bool true) ∧ Below w.heap.size w w' := by
  have HB0 := Lib.hid (Below.refl w.heap.size w)
  have FT := Lib.hid hT
  clear hT
  go_enter Tryd.func30, Tryd.ntmps30
  go_wp2_with fail
  have B : Below w.heap.size w (((w.alloc (.cells #[.int .i64 0, .int .i64 0] 23)).alloc (.cells #[.int .i64 2, .int .i64 0] 23)).alloc (.cells #[.int .i64 0, .int .i64 2] 23)) := (((HB0.out.alloc HB0.out.size _).alloc (HB0.out.alloc HB0.out.size _).size _).alloc ((HB0.out.alloc HB0.out.size _).alloc (HB0.out.alloc HB0.out.size _).size _).size _)
  have C : Below w.heap.size w (((w.alloc (.cells #[.int .i64 0, .int .i64 0] 23)).alloc (.cells #[.int .i64 2, .int .i64 0] 23)).alloc (.cells #[.int .i64 0, .int .i64 2] 23)) := ((((Below.refl w.heap.size w).alloc (Nat.le_refl _) _).alloc (by simp; try omega) _).alloc (by simp; try omega) _)
  have X0 : Bx (((w.alloc (.cells #[.int .i64 0, .int .i64 0] 23)).alloc (.cells #[.int .i64 2, .int .i64 0] 23)).alloc (.cells #[.int .i64 0, .int .i64 2] 23)) (w.heap.size) #[.int .i64 0, .int .i64 0] 23 := by simpa using (((Bx.new w #[.int .i64 0, .int .i64 0] 23).alloc _).alloc _)
  have X1 : Bx (((w.alloc (.cells #[.int .i64 0, .int .i64 0] 23)).alloc (.cells #[.int .i64 2, .int .i64 0] 23)).alloc (.cells #[.int .i64 0, .int .i64 2] 23)) (w.heap.size + 1) #[.int .i64 2, .int .i64 0] 23 := by simpa using ((Bx.new (w.alloc (.cells #[.int .i64 0, .int .i64 0] 23)) #[.int .i64 2, .int .i64 0] 23).alloc _)
  have X2 : Bx (((w.alloc (.cells #[.int .i64 0, .int .i64 0] 23)).alloc (.cells #[.int .i64 2, .int .i64 0] 23)).alloc (.cells #[.int .i64 0, .int .i64 2] 23)) (w.heap.size + 1 + 1) #[.int .i64 0, .int .i64 2] 23 := by simpa using (Bx.new ((w.alloc (.cells #[.int .i64 0, .int .i64 0] 23)).alloc (.cells #[.int .i64 2, .int .i64 0] 23)) #[.int .i64 0, .int .i64 2] 23)
  have FT_1 := Lib.hid (FT.out.below C (Nat.le_refl _))
  have HB1 := Lib.hid B
  have FO_1 := Lib.hid X0
  have FX_1 := Lib.hid X1
  have FY_1 := Lib.hid X2
  clear B C X0 X1 X2 HB0 FT
  generalize (((w.alloc (.cells #[.int .i64 0, .int .i64 0] 23)).alloc (.cells #[.int .i64 2, .int .i64 0] 23)).alloc (.cells #[.int .i64 0, .int .i64 2] 23)) = w1 at *
  have vO0 := FO_1.out.cell 0 (v := .int .i64 0) rfl
  have vO1 := FO_1.out.cell 1 (v := .int .i64 0) rfl
  have vX0 := FX_1.out.cell 0 (v := .int .i64 2) rfl
  have vX1 := FX_1.out.cell 1 (v := .int .i64 0) rfl
  have vY0 := FY_1.out.cell 0 (v := .int .i64 0) rfl
  have vY1 := FY_1.out.cell 1 (v := .int .i64 2) rfl
  go_wp2_with fail
  refine (circle_Side 0 0 2 0 0 2 1 1 (p4_of 1 1 (isI_s (by omega) (by omega)) (isI_s (by omega) (by omega))) _ FT_1.out).mono ?_
  rintro e w2 ⟨rfl, B⟩
  clear vO0 vO1 vX0 vX1 vY0 vY1
  have HB2 := Lib.hid (HB1.out.trans (B.mono HB1.out.size))
  have FT_2 := Lib.hid (FT_1.out.below B (Nat.le_refl _))
  have FO_2 := Lib.hid (FO_1.out.below B (Nat.le_refl _))
  have FX_2 := Lib.hid (FX_1.out.below B (Nat.le_refl _))
  have FY_2 := Lib.hid (FY_1.out.below B (Nat.le_refl _))
  clear B  HB1 FT_1 FO_1 FX_1 FY_1
  rw [al7_1]
  have vO0 := FO_2.out.cell 0 (v := .int .i64 0) rfl
  have vO1 := FO_2.out.cell 1 (v := .int .i64 0) rfl
  have vX0 := FX_2.out.cell 0 (v := .int .i64 2) rfl
  have vX1 := FX_2.out.cell 1 (v := .int .i64 0) rfl
  have vY0 := FY_2.out.cell 0 (v := .int .i64 0) rfl
  have vY1 := FY_2.out.cell 1 (v := .int .i64 2) rfl
  go_wp2_with fail
  refine (circle_Side 0 0 2 0 0 2 2 2 (p4_of 2 2 (isI_s (by omega) (by omega)) (isI_s (by omega) (by omega))) _ FT_2.out).mono ?_
  rintro e w3 ⟨rfl, B⟩
  clear vO0 vO1 vX0 vX1 vY0 vY1
  have HB3 := Lib.hid (HB2.out.trans (B.mono HB2.out.size))
  have FT_3 := Lib.hid (FT_2.out.below B (Nat.le_refl _))
  have FO_3 := Lib.hid (FO_2.out.below B (Nat.le_refl _))
  have FX_3 := Lib.hid (FX_2.out.below B (Nat.le_refl _))
  have FY_3 := Lib.hid (FY_2.out.below B (Nat.le_refl _))
  clear B  HB2 FT_2 FO_2 FX_2 FY_2
  rw [al7_2]
  have vO0 := FO_3.out.cell 0 (v := .int .i64 0) rfl
  have vO1 := FO_3.out.cell 1 (v := .int .i64 0) rfl
  have vX0 := FX_3.out.cell 0 (v := .int .i64 2) rfl
  have vX1 := FX_3.out.cell 1 (v := .int .i64 0) rfl
  have vY0 := FY_3.out.cell 0 (v := .int .i64 0) rfl
  have vY1 := FY_3.out.cell 1 (v := .int .i64 2) rfl
  go_wp2_with fail
  refine (circle_Side 0 0 2 0 0 2 3 0 (p4_of 3 0 (isI_s (by omega) (by omega)) (isI_s (by omega) (by omega))) _ FT_3.out).mono ?_
  rintro e w4 ⟨rfl, B⟩
  clear vO0 vO1 vX0 vX1 vY0 vY1
  have HB4 := Lib.hid (HB3.out.trans (B.mono HB3.out.size))
  have FT_4 := Lib.hid (FT_3.out.below B (Nat.le_refl _))
  have FO_4 := Lib.hid (FO_3.out.below B (Nat.le_refl _))
  have FX_4 := Lib.hid (FX_3.out.below B (Nat.le_refl _))
  have FY_4 := Lib.hid (FY_3.out.below B (Nat.le_refl _))
  clear B  HB3 FT_3 FO_3 FX_3 FY_3
  rw [al7_3]
  have vO0 := FO_4.out.cell 0 (v := .int .i64 0) rfl
  have vO1 := FO_4.out.cell 1 (v := .int .i64 0) rfl
  have vX0 := FX_4.out.cell 0 (v := .int .i64 2) rfl
  have vX1 := FX_4.out.cell 1 (v := .int .i64 0) rfl
  have vY0 := FY_4.out.cell 0 (v := .int .i64 0) rfl
  have vY1 := FY_4.out.cell 1 (v := .int .i64 2) rfl
  go_wp2_with fail
  refine (circle_Value 0 0 2 0 0 2 0 0 (p4_of 0 0 (isI_s (by omega) (by omega)) (isI_s (by omega) (by omega))) _).mono ?_
  rintro e w5 ⟨⟨U, u, rfl, SU⟩, B⟩
  clear vO0 vO1 vX0 vX1 vY0 vY1
  have HB5 := Lib.hid (HB4.out.trans (B.mono HB4.out.size))
  have FT_5 := Lib.hid (FT_4.out.below B (Nat.le_refl _))
  have FO_5 := Lib.hid (FO_4.out.below B (Nat.le_refl _))
  have FX_5 := Lib.hid (FX_4.out.below B (Nat.le_refl _))
  have FY_5 := Lib.hid (FY_4.out.below B (Nat.le_refl _))
  clear B  HB4 FT_4 FO_4 FX_4 FY_4
  clear SU
  have vO0 := FO_5.out.cell 0 (v := .int .i64 0) rfl
  have vO1 := FO_5.out.cell 1 (v := .int .i64 0) rfl
  have vX0 := FX_5.out.cell 0 (v := .int .i64 2) rfl
  have vX1 := FX_5.out.cell 1 (v := .int .i64 0) rfl
  have vY0 := FY_5.out.cell 0 (v := .int .i64 0) rfl
  have vY1 := FY_5.out.cell 1 (v := .int .i64 2) rfl
  go_wp2_with fail
  refine (circle_Sign 0 0 2 0 0 2 1 1 (p4_of 1 1 (isI_s (by omega) (by omega)) (isI_s (by omega) (by omega))) _ FT_5.out).mono ?_
  rintro e w6 ⟨rfl, B⟩
  clear vO0 vO1 vX0 vX1 vY0 vY1
  have HB6 := Lib.hid (HB5.out.trans (B.mono HB5.out.size))
  have FT_6 := Lib.hid (FT_5.out.below B (Nat.le_refl _))
  have FO_6 := Lib.hid (FO_5.out.below B (Nat.le_refl _))
  have FX_6 := Lib.hid (FX_5.out.below B (Nat.le_refl _))
  have FY_6 := Lib.hid (FY_5.out.below B (Nat.le_refl _))
  clear B  HB5 FT_5 FO_5 FX_5 FY_5
  rw [al7_4]
  have vO0 := FO_6.out.cell 0 (v := .int .i64 0) rfl
  have vO1 := FO_6.out.cell 1 (v := .int .i64 0) rfl
  have vX0 := FX_6.out.cell 0 (v := .int .i64 2) rfl
  have vX1 := FX_6.out.cell 1 (v := .int .i64 0) rfl
  have vY0 := FY_6.out.cell 0 (v := .int .i64 0) rfl
  have vY1 := FY_6.out.cell 1 (v := .int .i64 2) rfl
  go_wp2_with fail
  go_ret
  exact ⟨rfl, HB6.out⟩

end Go.Proofs.YtfjanlfbnliokaaDoor
