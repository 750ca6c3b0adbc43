/- Contracts of the reference of layer 8: Contains, Crosses, Meets. -/
import Derived.Test.YtoikcgmdlccdbaaDoorRef8
import Derived.Test.YtoikcgmdlccdbaaDoorSeg4
import Derived.Test.YtoikcgmdlccdbaaDoorRef6
import Derived.Deep.RegionHeld3
namespace Go.Proofs.YtoikcgmdlccdbaaDoor
set_option linter.unusedVariables false
set_option linter.unusedSimpArgs false
open Go.RowKit Wd

theorem sg_zeroD (x : Int) : (sg x == 0) = decide (x = 0) := by
  unfold sg; rcases (by omega : x < 0 ∨ x = 0 ∨ 0 < x) with h | h | h
  · rw [Int.sign_eq_neg_one_of_neg h]; simp; omega
  · subst h; rfl
  · rw [Int.sign_eq_one_of_pos h]; simp; omega
set_option maxHeartbeats 4000000 in
theorem ref8_Contains (ax ay bx b_ cx cy : Int) (hp : P3 ax ay bx b_ cx cy) (w : World) :
    Calls Tryd.prog 26 #[.agg #[.int .i64 ax, .int .i64 ay], .agg #[.int .i64 bx, .int .i64 b_], .agg #[.int .i64 cx, .int .i64 cy]] w fun e w' => e = .returned (.bool (contB ax ay bx b_ cx cy)) ∧ Below w.heap.size w w' := by
  have HB0 := Lib.hid (Below.refl w.heap.size w)
  have hr := sign_range (det ax ay bx b_ cx cy)
  unfold contB
  by_cases hz : det ax ay bx b_ cx cy = 0
  rotate_left
  · have hd : (sg (det ax ay bx b_ cx cy) == 0) = false := by rw [sg_zeroD]; simpa using hz
    rw [show decide (det ax ay bx b_ cx cy = 0) = false from by simpa using hz]; simp only [Bool.false_and]; clear hz
    go_enter Tryd.func26, Tryd.ntmps26
    go_wp2_with fail
    have B : Below w.heap.size w (((w.alloc (.cells #[.int .i64 ax, .int .i64 ay] 28)).alloc (.cells #[.int .i64 bx, .int .i64 b_] 28)).alloc (.cells #[.int .i64 cx, .int .i64 cy] 28)) := (((HB0.out.alloc HB0.out.size _).alloc (HB0.out.alloc HB0.out.size _).size _).alloc ((HB0.out.alloc HB0.out.size _).alloc (HB0.out.alloc HB0.out.size _).size _).size _)
    have C : Below w.heap.size w (((w.alloc (.cells #[.int .i64 ax, .int .i64 ay] 28)).alloc (.cells #[.int .i64 bx, .int .i64 b_] 28)).alloc (.cells #[.int .i64 cx, .int .i64 cy] 28)) := ((((Below.refl w.heap.size w).alloc (Nat.le_refl _) _).alloc (by simp; try omega) _).alloc (by simp; try omega) _)
    have X0 : Bx (((w.alloc (.cells #[.int .i64 ax, .int .i64 ay] 28)).alloc (.cells #[.int .i64 bx, .int .i64 b_] 28)).alloc (.cells #[.int .i64 cx, .int .i64 cy] 28)) (w.heap.size) #[.int .i64 ax, .int .i64 ay] 28 := by simpa using (((Bx.new w #[.int .i64 ax, .int .i64 ay] 28).alloc _).alloc _)
    have X1 : Bx (((w.alloc (.cells #[.int .i64 ax, .int .i64 ay] 28)).alloc (.cells #[.int .i64 bx, .int .i64 b_] 28)).alloc (.cells #[.int .i64 cx, .int .i64 cy] 28)) (w.heap.size + 1) #[.int .i64 bx, .int .i64 b_] 28 := by simpa using ((Bx.new (w.alloc (.cells #[.int .i64 ax, .int .i64 ay] 28)) #[.int .i64 bx, .int .i64 b_] 28).alloc _)
    have X2 : Bx (((w.alloc (.cells #[.int .i64 ax, .int .i64 ay] 28)).alloc (.cells #[.int .i64 bx, .int .i64 b_] 28)).alloc (.cells #[.int .i64 cx, .int .i64 cy] 28)) (w.heap.size + 1 + 1) #[.int .i64 cx, .int .i64 cy] 28 := by simpa using (Bx.new ((w.alloc (.cells #[.int .i64 ax, .int .i64 ay] 28)).alloc (.cells #[.int .i64 bx, .int .i64 b_] 28)) #[.int .i64 cx, .int .i64 cy] 28)
    have HB1 := Lib.hid B
    have FP_1 := Lib.hid X0
    have FQ_1 := Lib.hid X1
    have FR_1 := Lib.hid X2
    clear B C X0 X1 X2 HB0 
    generalize (((w.alloc (.cells #[.int .i64 ax, .int .i64 ay] 28)).alloc (.cells #[.int .i64 bx, .int .i64 b_] 28)).alloc (.cells #[.int .i64 cx, .int .i64 cy] 28)) = w1 at *
    skip
    refine (ref6_Sign _ _ _ _ _ _ hp _).mono ?_
    rintro e w2 ⟨rfl, B⟩
    have HB2 := Lib.hid (HB1.out.trans (B.mono HB1.out.size))
    have FP_2 := Lib.hid (FP_1.out.below B (Nat.le_refl _))
    have FQ_2 := Lib.hid (FQ_1.out.below B (Nat.le_refl _))
    have FR_2 := Lib.hid (FR_1.out.below B (Nat.le_refl _))
    clear B  HB1 FP_1 FQ_1 FR_1
    have vP0 := FP_2.out.cell 0 (v := .int .i64 ax) rfl
    have vP1 := FP_2.out.cell 1 (v := .int .i64 ay) rfl
    have vQ0 := FQ_2.out.cell 0 (v := .int .i64 bx) rfl
    have vQ1 := FQ_2.out.cell 1 (v := .int .i64 b_) rfl
    have vR0 := FR_2.out.cell 0 (v := .int .i64 cx) rfl
    have vR1 := FR_2.out.cell 1 (v := .int .i64 cy) rfl
    go_wp2_with fail
    go_ret
    exact ⟨rfl, HB2.out⟩
  have hd : (sg (det ax ay bx b_ cx cy) == 0) = true := by rw [sg_zeroD]; simpa using hz
  rw [show decide (det ax ay bx b_ cx cy = 0) = true from by simpa using hz]; simp only [Bool.true_and]; clear hz
  cases hw1 : withB ax bx cx
  · have W1 := Lib.hid hw1; clear hw1
    simp only [Bool.false_and]
    go_enter Tryd.func26, Tryd.ntmps26
    go_wp2_with fail
    have B : Below w.heap.size w (((w.alloc (.cells #[.int .i64 ax, .int .i64 ay] 28)).alloc (.cells #[.int .i64 bx, .int .i64 b_] 28)).alloc (.cells #[.int .i64 cx, .int .i64 cy] 28)) := (((HB0.out.alloc HB0.out.size _).alloc (HB0.out.alloc HB0.out.size _).size _).alloc ((HB0.out.alloc HB0.out.size _).alloc (HB0.out.alloc HB0.out.size _).size _).size _)
    have C : Below w.heap.size w (((w.alloc (.cells #[.int .i64 ax, .int .i64 ay] 28)).alloc (.cells #[.int .i64 bx, .int .i64 b_] 28)).alloc (.cells #[.int .i64 cx, .int .i64 cy] 28)) := ((((Below.refl w.heap.size w).alloc (Nat.le_refl _) _).alloc (by simp; try omega) _).alloc (by simp; try omega) _)
    have X0 : Bx (((w.alloc (.cells #[.int .i64 ax, .int .i64 ay] 28)).alloc (.cells #[.int .i64 bx, .int .i64 b_] 28)).alloc (.cells #[.int .i64 cx, .int .i64 cy] 28)) (w.heap.size) #[.int .i64 ax, .int .i64 ay] 28 := by simpa using (((Bx.new w #[.int .i64 ax, .int .i64 ay] 28).alloc _).alloc _)
    have X1 : Bx (((w.alloc (.cells #[.int .i64 ax, .int .i64 ay] 28)).alloc (.cells #[.int .i64 bx, .int .i64 b_] 28)).alloc (.cells #[.int .i64 cx, .int .i64 cy] 28)) (w.heap.size + 1) #[.int .i64 bx, .int .i64 b_] 28 := by simpa using ((Bx.new (w.alloc (.cells #[.int .i64 ax, .int .i64 ay] 28)) #[.int .i64 bx, .int .i64 b_] 28).alloc _)
    have X2 : Bx (((w.alloc (.cells #[.int .i64 ax, .int .i64 ay] 28)).alloc (.cells #[.int .i64 bx, .int .i64 b_] 28)).alloc (.cells #[.int .i64 cx, .int .i64 cy] 28)) (w.heap.size + 1 + 1) #[.int .i64 cx, .int .i64 cy] 28 := by simpa using (Bx.new ((w.alloc (.cells #[.int .i64 ax, .int .i64 ay] 28)).alloc (.cells #[.int .i64 bx, .int .i64 b_] 28)) #[.int .i64 cx, .int .i64 cy] 28)
    have HB1 := Lib.hid B
    have FP_1 := Lib.hid X0
    have FQ_1 := Lib.hid X1
    have FR_1 := Lib.hid X2
    clear B C X0 X1 X2 HB0 
    generalize (((w.alloc (.cells #[.int .i64 ax, .int .i64 ay] 28)).alloc (.cells #[.int .i64 bx, .int .i64 b_] 28)).alloc (.cells #[.int .i64 cx, .int .i64 cy] 28)) = w1 at *
    skip
    refine (ref6_Sign _ _ _ _ _ _ hp _).mono ?_
    rintro e w2 ⟨rfl, B⟩
    have HB2 := Lib.hid (HB1.out.trans (B.mono HB1.out.size))
    have FP_2 := Lib.hid (FP_1.out.below B (Nat.le_refl _))
    have FQ_2 := Lib.hid (FQ_1.out.below B (Nat.le_refl _))
    have FR_2 := Lib.hid (FR_1.out.below B (Nat.le_refl _))
    clear B  HB1 FP_1 FQ_1 FR_1
    have vP0 := FP_2.out.cell 0 (v := .int .i64 ax) rfl
    have vP1 := FP_2.out.cell 1 (v := .int .i64 ay) rfl
    have vQ0 := FQ_2.out.cell 0 (v := .int .i64 bx) rfl
    have vQ1 := FQ_2.out.cell 1 (v := .int .i64 b_) rfl
    have vR0 := FR_2.out.cell 0 (v := .int .i64 cx) rfl
    have vR1 := FR_2.out.cell 1 (v := .int .i64 cy) rfl
    go_wp2_with fail
    refine (ref8_Within ax bx cx _).mono ?_
    rintro e w3 ⟨rfl, rfl⟩
    clear vP0 vP1 vQ0 vQ1 vR0 vR1
    rw [W1.out]
    have vP0 := FP_2.out.cell 0 (v := .int .i64 ax) rfl
    have vP1 := FP_2.out.cell 1 (v := .int .i64 ay) rfl
    have vQ0 := FQ_2.out.cell 0 (v := .int .i64 bx) rfl
    have vQ1 := FQ_2.out.cell 1 (v := .int .i64 b_) rfl
    have vR0 := FR_2.out.cell 0 (v := .int .i64 cx) rfl
    have vR1 := FR_2.out.cell 1 (v := .int .i64 cy) rfl
    go_wp2_with fail
    go_ret
    exact ⟨rfl, HB2.out⟩
  · have W1 := Lib.hid hw1; clear hw1
    simp only [Bool.true_and]
    go_enter Tryd.func26, Tryd.ntmps26
    go_wp2_with fail
    have B : Below w.heap.size w (((w.alloc (.cells #[.int .i64 ax, .int .i64 ay] 28)).alloc (.cells #[.int .i64 bx, .int .i64 b_] 28)).alloc (.cells #[.int .i64 cx, .int .i64 cy] 28)) := (((HB0.out.alloc HB0.out.size _).alloc (HB0.out.alloc HB0.out.size _).size _).alloc ((HB0.out.alloc HB0.out.size _).alloc (HB0.out.alloc HB0.out.size _).size _).size _)
    have C : Below w.heap.size w (((w.alloc (.cells #[.int .i64 ax, .int .i64 ay] 28)).alloc (.cells #[.int .i64 bx, .int .i64 b_] 28)).alloc (.cells #[.int .i64 cx, .int .i64 cy] 28)) := ((((Below.refl w.heap.size w).alloc (Nat.le_refl _) _).alloc (by simp; try omega) _).alloc (by simp; try omega) _)
    have X0 : Bx (((w.alloc (.cells #[.int .i64 ax, .int .i64 ay] 28)).alloc (.cells #[.int .i64 bx, .int .i64 b_] 28)).alloc (.cells #[.int .i64 cx, .int .i64 cy] 28)) (w.heap.size) #[.int .i64 ax, .int .i64 ay] 28 := by simpa using (((Bx.new w #[.int .i64 ax, .int .i64 ay] 28).alloc _).alloc _)
    have X1 : Bx (((w.alloc (.cells #[.int .i64 ax, .int .i64 ay] 28)).alloc (.cells #[.int .i64 bx, .int .i64 b_] 28)).alloc (.cells #[.int .i64 cx, .int .i64 cy] 28)) (w.heap.size + 1) #[.int .i64 bx, .int .i64 b_] 28 := by simpa using ((Bx.new (w.alloc (.cells #[.int .i64 ax, .int .i64 ay] 28)) #[.int .i64 bx, .int .i64 b_] 28).alloc _)
    have X2 : Bx (((w.alloc (.cells #[.int .i64 ax, .int .i64 ay] 28)).alloc (.cells #[.int .i64 bx, .int .i64 b_] 28)).alloc (.cells #[.int .i64 cx, .int .i64 cy] 28)) (w.heap.size + 1 + 1) #[.int .i64 cx, .int .i64 cy] 28 := by simpa using (Bx.new ((w.alloc (.cells #[.int .i64 ax, .int .i64 ay] 28)).alloc (.cells #[.int .i64 bx, .int .i64 b_] 28)) #[.int .i64 cx, .int .i64 cy] 28)
    have HB1 := Lib.hid B
    have FP_1 := Lib.hid X0
    have FQ_1 := Lib.hid X1
    have FR_1 := Lib.hid X2
    clear B C X0 X1 X2 HB0 
    generalize (((w.alloc (.cells #[.int .i64 ax, .int .i64 ay] 28)).alloc (.cells #[.int .i64 bx, .int .i64 b_] 28)).alloc (.cells #[.int .i64 cx, .int .i64 cy] 28)) = w1 at *
    skip
    refine (ref6_Sign _ _ _ _ _ _ hp _).mono ?_
    rintro e w2 ⟨rfl, B⟩
    have HB2 := Lib.hid (HB1.out.trans (B.mono HB1.out.size))
    have FP_2 := Lib.hid (FP_1.out.below B (Nat.le_refl _))
    have FQ_2 := Lib.hid (FQ_1.out.below B (Nat.le_refl _))
    have FR_2 := Lib.hid (FR_1.out.below B (Nat.le_refl _))
    clear B  HB1 FP_1 FQ_1 FR_1
    have vP0 := FP_2.out.cell 0 (v := .int .i64 ax) rfl
    have vP1 := FP_2.out.cell 1 (v := .int .i64 ay) rfl
    have vQ0 := FQ_2.out.cell 0 (v := .int .i64 bx) rfl
    have vQ1 := FQ_2.out.cell 1 (v := .int .i64 b_) rfl
    have vR0 := FR_2.out.cell 0 (v := .int .i64 cx) rfl
    have vR1 := FR_2.out.cell 1 (v := .int .i64 cy) rfl
    go_wp2_with fail
    refine (ref8_Within ax bx cx _).mono ?_
    rintro e w3 ⟨rfl, rfl⟩
    clear vP0 vP1 vQ0 vQ1 vR0 vR1
    rw [W1.out]
    have vP0 := FP_2.out.cell 0 (v := .int .i64 ax) rfl
    have vP1 := FP_2.out.cell 1 (v := .int .i64 ay) rfl
    have vQ0 := FQ_2.out.cell 0 (v := .int .i64 bx) rfl
    have vQ1 := FQ_2.out.cell 1 (v := .int .i64 b_) rfl
    have vR0 := FR_2.out.cell 0 (v := .int .i64 cx) rfl
    have vR1 := FR_2.out.cell 1 (v := .int .i64 cy) rfl
    go_wp2_with fail
    refine (ref8_Within ay b_ cy _).mono ?_
    rintro e w4 ⟨rfl, rfl⟩
    clear vP0 vP1 vQ0 vQ1 vR0 vR1
    have vP0 := FP_2.out.cell 0 (v := .int .i64 ax) rfl
    have vP1 := FP_2.out.cell 1 (v := .int .i64 ay) rfl
    have vQ0 := FQ_2.out.cell 0 (v := .int .i64 bx) rfl
    have vQ1 := FQ_2.out.cell 1 (v := .int .i64 b_) rfl
    have vR0 := FR_2.out.cell 0 (v := .int .i64 cx) rfl
    have vR1 := FR_2.out.cell 1 (v := .int .i64 cy) rfl
    go_wp2_with fail
    go_ret
    exact ⟨rfl, HB2.out⟩
end Go.Proofs.YtoikcgmdlccdbaaDoor
