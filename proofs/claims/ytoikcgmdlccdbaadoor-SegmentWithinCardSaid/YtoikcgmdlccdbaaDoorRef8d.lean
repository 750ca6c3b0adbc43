/- Contract of the reference of layer 8: Meets. -/
import Derived.Test.YtoikcgmdlccdbaaDoorRef8c
namespace Go.Proofs.YtoikcgmdlccdbaaDoor
set_option linter.unusedVariables false
set_option linter.unusedSimpArgs false
open Go.RowKit Wd

set_option maxHeartbeats 8000000 in
theorem ref8_Meets (ax ay bx b_ cx cy dx dy : Int) (hp : P4 ax ay bx b_ cx cy dx dy) (w : World) :
    Calls Tryd.prog 30 #[.agg #[.int .i64 ax, .int .i64 ay], .agg #[.int .i64 bx, .int .i64 b_], .agg #[.int .i64 cx, .int .i64 cy], .agg #[.int .i64 dx, .int .i64 dy]] w fun e w' => e = .returned (.bool (meetB ax ay bx b_ cx cy dx dy)) ∧ Below w.heap.size w w' := by
  have HB0 := Lib.hid (Below.refl w.heap.size w)
  unfold meetB
  cases e0 : crossB ax ay bx b_ cx cy dx dy
  rotate_left
  · have E0 := Lib.hid e0; clear e0; simp only [Bool.true_or, Bool.false_or]
    go_enter Tryd.func30, Tryd.ntmps30
    go_wp2_with fail
    have B : Below w.heap.size w ((((w.alloc (.cells #[.int .i64 ax, .int .i64 ay] 28)).alloc (.cells #[.int .i64 bx, .int .i64 b_] 28)).alloc (.cells #[.int .i64 cx, .int .i64 cy] 28)).alloc (.cells #[.int .i64 dx, .int .i64 dy] 28)) := ((((HB0.out.alloc HB0.out.size _).alloc (HB0.out.alloc HB0.out.size _).size _).alloc ((HB0.out.alloc HB0.out.size _).alloc (HB0.out.alloc HB0.out.size _).size _).size _).alloc (((HB0.out.alloc HB0.out.size _).alloc (HB0.out.alloc HB0.out.size _).size _).alloc ((HB0.out.alloc HB0.out.size _).alloc (HB0.out.alloc HB0.out.size _).size _).size _).size _)
    have C : Below w.heap.size w ((((w.alloc (.cells #[.int .i64 ax, .int .i64 ay] 28)).alloc (.cells #[.int .i64 bx, .int .i64 b_] 28)).alloc (.cells #[.int .i64 cx, .int .i64 cy] 28)).alloc (.cells #[.int .i64 dx, .int .i64 dy] 28)) := (((((Below.refl w.heap.size w).alloc (Nat.le_refl _) _).alloc (by simp; try omega) _).alloc (by simp; try omega) _).alloc (by simp; try omega) _)
    have X0 : Bx ((((w.alloc (.cells #[.int .i64 ax, .int .i64 ay] 28)).alloc (.cells #[.int .i64 bx, .int .i64 b_] 28)).alloc (.cells #[.int .i64 cx, .int .i64 cy] 28)).alloc (.cells #[.int .i64 dx, .int .i64 dy] 28)) (w.heap.size) #[.int .i64 ax, .int .i64 ay] 28 := by simpa using ((((Bx.new w #[.int .i64 ax, .int .i64 ay] 28).alloc _).alloc _).alloc _)
    have X1 : Bx ((((w.alloc (.cells #[.int .i64 ax, .int .i64 ay] 28)).alloc (.cells #[.int .i64 bx, .int .i64 b_] 28)).alloc (.cells #[.int .i64 cx, .int .i64 cy] 28)).alloc (.cells #[.int .i64 dx, .int .i64 dy] 28)) (w.heap.size + 1) #[.int .i64 bx, .int .i64 b_] 28 := by simpa using (((Bx.new (w.alloc (.cells #[.int .i64 ax, .int .i64 ay] 28)) #[.int .i64 bx, .int .i64 b_] 28).alloc _).alloc _)
    have X2 : Bx ((((w.alloc (.cells #[.int .i64 ax, .int .i64 ay] 28)).alloc (.cells #[.int .i64 bx, .int .i64 b_] 28)).alloc (.cells #[.int .i64 cx, .int .i64 cy] 28)).alloc (.cells #[.int .i64 dx, .int .i64 dy] 28)) (w.heap.size + 1 + 1) #[.int .i64 cx, .int .i64 cy] 28 := by simpa using ((Bx.new ((w.alloc (.cells #[.int .i64 ax, .int .i64 ay] 28)).alloc (.cells #[.int .i64 bx, .int .i64 b_] 28)) #[.int .i64 cx, .int .i64 cy] 28).alloc _)
    have X3 : Bx ((((w.alloc (.cells #[.int .i64 ax, .int .i64 ay] 28)).alloc (.cells #[.int .i64 bx, .int .i64 b_] 28)).alloc (.cells #[.int .i64 cx, .int .i64 cy] 28)).alloc (.cells #[.int .i64 dx, .int .i64 dy] 28)) (w.heap.size + 1 + 1 + 1) #[.int .i64 dx, .int .i64 dy] 28 := by simpa using (Bx.new (((w.alloc (.cells #[.int .i64 ax, .int .i64 ay] 28)).alloc (.cells #[.int .i64 bx, .int .i64 b_] 28)).alloc (.cells #[.int .i64 cx, .int .i64 cy] 28)) #[.int .i64 dx, .int .i64 dy] 28)
    have HB1 := Lib.hid B
    have FP_1 := Lib.hid X0
    have FQ_1 := Lib.hid X1
    have FR_1 := Lib.hid X2
    have FV_1 := Lib.hid X3
    clear B C X0 X1 X2 X3 HB0 
    generalize ((((w.alloc (.cells #[.int .i64 ax, .int .i64 ay] 28)).alloc (.cells #[.int .i64 bx, .int .i64 b_] 28)).alloc (.cells #[.int .i64 cx, .int .i64 cy] 28)).alloc (.cells #[.int .i64 dx, .int .i64 dy] 28)) = w1 at *
    skip
    refine (ref8_Crosses ax ay bx b_ cx cy dx dy hp _).mono ?_
    rintro e w2 ⟨rfl, B⟩
    have HB2 := Lib.hid (HB1.out.trans (B.mono HB1.out.size))
    have FP_2 := Lib.hid (FP_1.out.below B (Nat.le_refl _))
    have FQ_2 := Lib.hid (FQ_1.out.below B (Nat.le_refl _))
    have FR_2 := Lib.hid (FR_1.out.below B (Nat.le_refl _))
    have FV_2 := Lib.hid (FV_1.out.below B (Nat.le_refl _))
    clear B  HB1 FP_1 FQ_1 FR_1 FV_1
    rw [E0.out]
    have vP0 := FP_2.out.cell 0 (v := .int .i64 ax) rfl
    have vP1 := FP_2.out.cell 1 (v := .int .i64 ay) rfl
    have vQ0 := FQ_2.out.cell 0 (v := .int .i64 bx) rfl
    have vQ1 := FQ_2.out.cell 1 (v := .int .i64 b_) rfl
    have vR0 := FR_2.out.cell 0 (v := .int .i64 cx) rfl
    have vR1 := FR_2.out.cell 1 (v := .int .i64 cy) rfl
    have vV0 := FV_2.out.cell 0 (v := .int .i64 dx) rfl
    have vV1 := FV_2.out.cell 1 (v := .int .i64 dy) rfl
    go_wp2_with fail
    go_ret
    exact ⟨rfl, HB2.out⟩
  have E0 := Lib.hid e0; clear e0
  cases e1 : contB ax ay bx b_ cx cy
  rotate_left
  · have E1 := Lib.hid e1; clear e1; simp only [Bool.true_or, Bool.false_or]
    go_enter Tryd.func30, Tryd.ntmps30
    go_wp2_with fail
    have B : Below w.heap.size w ((((w.alloc (.cells #[.int .i64 ax, .int .i64 ay] 28)).alloc (.cells #[.int .i64 bx, .int .i64 b_] 28)).alloc (.cells #[.int .i64 cx, .int .i64 cy] 28)).alloc (.cells #[.int .i64 dx, .int .i64 dy] 28)) := ((((HB0.out.alloc HB0.out.size _).alloc (HB0.out.alloc HB0.out.size _).size _).alloc ((HB0.out.alloc HB0.out.size _).alloc (HB0.out.alloc HB0.out.size _).size _).size _).alloc (((HB0.out.alloc HB0.out.size _).alloc (HB0.out.alloc HB0.out.size _).size _).alloc ((HB0.out.alloc HB0.out.size _).alloc (HB0.out.alloc HB0.out.size _).size _).size _).size _)
    have C : Below w.heap.size w ((((w.alloc (.cells #[.int .i64 ax, .int .i64 ay] 28)).alloc (.cells #[.int .i64 bx, .int .i64 b_] 28)).alloc (.cells #[.int .i64 cx, .int .i64 cy] 28)).alloc (.cells #[.int .i64 dx, .int .i64 dy] 28)) := (((((Below.refl w.heap.size w).alloc (Nat.le_refl _) _).alloc (by simp; try omega) _).alloc (by simp; try omega) _).alloc (by simp; try omega) _)
    have X0 : Bx ((((w.alloc (.cells #[.int .i64 ax, .int .i64 ay] 28)).alloc (.cells #[.int .i64 bx, .int .i64 b_] 28)).alloc (.cells #[.int .i64 cx, .int .i64 cy] 28)).alloc (.cells #[.int .i64 dx, .int .i64 dy] 28)) (w.heap.size) #[.int .i64 ax, .int .i64 ay] 28 := by simpa using ((((Bx.new w #[.int .i64 ax, .int .i64 ay] 28).alloc _).alloc _).alloc _)
    have X1 : Bx ((((w.alloc (.cells #[.int .i64 ax, .int .i64 ay] 28)).alloc (.cells #[.int .i64 bx, .int .i64 b_] 28)).alloc (.cells #[.int .i64 cx, .int .i64 cy] 28)).alloc (.cells #[.int .i64 dx, .int .i64 dy] 28)) (w.heap.size + 1) #[.int .i64 bx, .int .i64 b_] 28 := by simpa using (((Bx.new (w.alloc (.cells #[.int .i64 ax, .int .i64 ay] 28)) #[.int .i64 bx, .int .i64 b_] 28).alloc _).alloc _)
    have X2 : Bx ((((w.alloc (.cells #[.int .i64 ax, .int .i64 ay] 28)).alloc (.cells #[.int .i64 bx, .int .i64 b_] 28)).alloc (.cells #[.int .i64 cx, .int .i64 cy] 28)).alloc (.cells #[.int .i64 dx, .int .i64 dy] 28)) (w.heap.size + 1 + 1) #[.int .i64 cx, .int .i64 cy] 28 := by simpa using ((Bx.new ((w.alloc (.cells #[.int .i64 ax, .int .i64 ay] 28)).alloc (.cells #[.int .i64 bx, .int .i64 b_] 28)) #[.int .i64 cx, .int .i64 cy] 28).alloc _)
    have X3 : Bx ((((w.alloc (.cells #[.int .i64 ax, .int .i64 ay] 28)).alloc (.cells #[.int .i64 bx, .int .i64 b_] 28)).alloc (.cells #[.int .i64 cx, .int .i64 cy] 28)).alloc (.cells #[.int .i64 dx, .int .i64 dy] 28)) (w.heap.size + 1 + 1 + 1) #[.int .i64 dx, .int .i64 dy] 28 := by simpa using (Bx.new (((w.alloc (.cells #[.int .i64 ax, .int .i64 ay] 28)).alloc (.cells #[.int .i64 bx, .int .i64 b_] 28)).alloc (.cells #[.int .i64 cx, .int .i64 cy] 28)) #[.int .i64 dx, .int .i64 dy] 28)
    have HB1 := Lib.hid B
    have FP_1 := Lib.hid X0
    have FQ_1 := Lib.hid X1
    have FR_1 := Lib.hid X2
    have FV_1 := Lib.hid X3
    clear B C X0 X1 X2 X3 HB0 
    generalize ((((w.alloc (.cells #[.int .i64 ax, .int .i64 ay] 28)).alloc (.cells #[.int .i64 bx, .int .i64 b_] 28)).alloc (.cells #[.int .i64 cx, .int .i64 cy] 28)).alloc (.cells #[.int .i64 dx, .int .i64 dy] 28)) = w1 at *
    skip
    refine (ref8_Crosses ax ay bx b_ cx cy dx dy hp _).mono ?_
    rintro e w2 ⟨rfl, B⟩
    have HB2 := Lib.hid (HB1.out.trans (B.mono HB1.out.size))
    have FP_2 := Lib.hid (FP_1.out.below B (Nat.le_refl _))
    have FQ_2 := Lib.hid (FQ_1.out.below B (Nat.le_refl _))
    have FR_2 := Lib.hid (FR_1.out.below B (Nat.le_refl _))
    have FV_2 := Lib.hid (FV_1.out.below B (Nat.le_refl _))
    clear B  HB1 FP_1 FQ_1 FR_1 FV_1
    rw [E0.out]
    have vP0 := FP_2.out.cell 0 (v := .int .i64 ax) rfl
    have vP1 := FP_2.out.cell 1 (v := .int .i64 ay) rfl
    have vQ0 := FQ_2.out.cell 0 (v := .int .i64 bx) rfl
    have vQ1 := FQ_2.out.cell 1 (v := .int .i64 b_) rfl
    have vR0 := FR_2.out.cell 0 (v := .int .i64 cx) rfl
    have vR1 := FR_2.out.cell 1 (v := .int .i64 cy) rfl
    have vV0 := FV_2.out.cell 0 (v := .int .i64 dx) rfl
    have vV1 := FV_2.out.cell 1 (v := .int .i64 dy) rfl
    go_wp2_with fail
    refine (ref8_Contains ax ay bx b_ cx cy ⟨hp.a, hp.b, hp.c, hp.d, hp.e, hp.f⟩ _).mono ?_
    rintro e w3 ⟨rfl, B⟩
    clear vP0 vP1 vQ0 vQ1 vR0 vR1 vV0 vV1
    have HB3 := Lib.hid (HB2.out.trans (B.mono HB2.out.size))
    have FP_3 := Lib.hid (FP_2.out.below B (Nat.le_refl _))
    have FQ_3 := Lib.hid (FQ_2.out.below B (Nat.le_refl _))
    have FR_3 := Lib.hid (FR_2.out.below B (Nat.le_refl _))
    have FV_3 := Lib.hid (FV_2.out.below B (Nat.le_refl _))
    clear B  HB2 FP_2 FQ_2 FR_2 FV_2
    rw [E1.out]
    have vP0 := FP_3.out.cell 0 (v := .int .i64 ax) rfl
    have vP1 := FP_3.out.cell 1 (v := .int .i64 ay) rfl
    have vQ0 := FQ_3.out.cell 0 (v := .int .i64 bx) rfl
    have vQ1 := FQ_3.out.cell 1 (v := .int .i64 b_) rfl
    have vR0 := FR_3.out.cell 0 (v := .int .i64 cx) rfl
    have vR1 := FR_3.out.cell 1 (v := .int .i64 cy) rfl
    have vV0 := FV_3.out.cell 0 (v := .int .i64 dx) rfl
    have vV1 := FV_3.out.cell 1 (v := .int .i64 dy) rfl
    go_wp2_with fail
    go_ret
    exact ⟨rfl, HB3.out⟩
  have E1 := Lib.hid e1; clear e1
  cases e2 : contB ax ay bx b_ dx dy
  rotate_left
  · have E2 := Lib.hid e2; clear e2; simp only [Bool.true_or, Bool.false_or]
    go_enter Tryd.func30, Tryd.ntmps30
    go_wp2_with fail
    have B : Below w.heap.size w ((((w.alloc (.cells #[.int .i64 ax, .int .i64 ay] 28)).alloc (.cells #[.int .i64 bx, .int .i64 b_] 28)).alloc (.cells #[.int .i64 cx, .int .i64 cy] 28)).alloc (.cells #[.int .i64 dx, .int .i64 dy] 28)) := ((((HB0.out.alloc HB0.out.size _).alloc (HB0.out.alloc HB0.out.size _).size _).alloc ((HB0.out.alloc HB0.out.size _).alloc (HB0.out.alloc HB0.out.size _).size _).size _).alloc (((HB0.out.alloc HB0.out.size _).alloc (HB0.out.alloc HB0.out.size _).size _).alloc ((HB0.out.alloc HB0.out.size _).alloc (HB0.out.alloc HB0.out.size _).size _).size _).size _)
    have C : Below w.heap.size w ((((w.alloc (.cells #[.int .i64 ax, .int .i64 ay] 28)).alloc (.cells #[.int .i64 bx, .int .i64 b_] 28)).alloc (.cells #[.int .i64 cx, .int .i64 cy] 28)).alloc (.cells #[.int .i64 dx, .int .i64 dy] 28)) := (((((Below.refl w.heap.size w).alloc (Nat.le_refl _) _).alloc (by simp; try omega) _).alloc (by simp; try omega) _).alloc (by simp; try omega) _)
    have X0 : Bx ((((w.alloc (.cells #[.int .i64 ax, .int .i64 ay] 28)).alloc (.cells #[.int .i64 bx, .int .i64 b_] 28)).alloc (.cells #[.int .i64 cx, .int .i64 cy] 28)).alloc (.cells #[.int .i64 dx, .int .i64 dy] 28)) (w.heap.size) #[.int .i64 ax, .int .i64 ay] 28 := by simpa using ((((Bx.new w #[.int .i64 ax, .int .i64 ay] 28).alloc _).alloc _).alloc _)
    have X1 : Bx ((((w.alloc (.cells #[.int .i64 ax, .int .i64 ay] 28)).alloc (.cells #[.int .i64 bx, .int .i64 b_] 28)).alloc (.cells #[.int .i64 cx, .int .i64 cy] 28)).alloc (.cells #[.int .i64 dx, .int .i64 dy] 28)) (w.heap.size + 1) #[.int .i64 bx, .int .i64 b_] 28 := by simpa using (((Bx.new (w.alloc (.cells #[.int .i64 ax, .int .i64 ay] 28)) #[.int .i64 bx, .int .i64 b_] 28).alloc _).alloc _)
    have X2 : Bx ((((w.alloc (.cells #[.int .i64 ax, .int .i64 ay] 28)).alloc (.cells #[.int .i64 bx, .int .i64 b_] 28)).alloc (.cells #[.int .i64 cx, .int .i64 cy] 28)).alloc (.cells #[.int .i64 dx, .int .i64 dy] 28)) (w.heap.size + 1 + 1) #[.int .i64 cx, .int .i64 cy] 28 := by simpa using ((Bx.new ((w.alloc (.cells #[.int .i64 ax, .int .i64 ay] 28)).alloc (.cells #[.int .i64 bx, .int .i64 b_] 28)) #[.int .i64 cx, .int .i64 cy] 28).alloc _)
    have X3 : Bx ((((w.alloc (.cells #[.int .i64 ax, .int .i64 ay] 28)).alloc (.cells #[.int .i64 bx, .int .i64 b_] 28)).alloc (.cells #[.int .i64 cx, .int .i64 cy] 28)).alloc (.cells #[.int .i64 dx, .int .i64 dy] 28)) (w.heap.size + 1 + 1 + 1) #[.int .i64 dx, .int .i64 dy] 28 := by simpa using (Bx.new (((w.alloc (.cells #[.int .i64 ax, .int .i64 ay] 28)).alloc (.cells #[.int .i64 bx, .int .i64 b_] 28)).alloc (.cells #[.int .i64 cx, .int .i64 cy] 28)) #[.int .i64 dx, .int .i64 dy] 28)
    have HB1 := Lib.hid B
    have FP_1 := Lib.hid X0
    have FQ_1 := Lib.hid X1
    have FR_1 := Lib.hid X2
    have FV_1 := Lib.hid X3
    clear B C X0 X1 X2 X3 HB0 
    generalize ((((w.alloc (.cells #[.int .i64 ax, .int .i64 ay] 28)).alloc (.cells #[.int .i64 bx, .int .i64 b_] 28)).alloc (.cells #[.int .i64 cx, .int .i64 cy] 28)).alloc (.cells #[.int .i64 dx, .int .i64 dy] 28)) = w1 at *
    skip
    refine (ref8_Crosses ax ay bx b_ cx cy dx dy hp _).mono ?_
    rintro e w2 ⟨rfl, B⟩
    have HB2 := Lib.hid (HB1.out.trans (B.mono HB1.out.size))
    have FP_2 := Lib.hid (FP_1.out.below B (Nat.le_refl _))
    have FQ_2 := Lib.hid (FQ_1.out.below B (Nat.le_refl _))
    have FR_2 := Lib.hid (FR_1.out.below B (Nat.le_refl _))
    have FV_2 := Lib.hid (FV_1.out.below B (Nat.le_refl _))
    clear B  HB1 FP_1 FQ_1 FR_1 FV_1
    rw [E0.out]
    have vP0 := FP_2.out.cell 0 (v := .int .i64 ax) rfl
    have vP1 := FP_2.out.cell 1 (v := .int .i64 ay) rfl
    have vQ0 := FQ_2.out.cell 0 (v := .int .i64 bx) rfl
    have vQ1 := FQ_2.out.cell 1 (v := .int .i64 b_) rfl
    have vR0 := FR_2.out.cell 0 (v := .int .i64 cx) rfl
    have vR1 := FR_2.out.cell 1 (v := .int .i64 cy) rfl
    have vV0 := FV_2.out.cell 0 (v := .int .i64 dx) rfl
    have vV1 := FV_2.out.cell 1 (v := .int .i64 dy) rfl
    go_wp2_with fail
    refine (ref8_Contains ax ay bx b_ cx cy ⟨hp.a, hp.b, hp.c, hp.d, hp.e, hp.f⟩ _).mono ?_
    rintro e w3 ⟨rfl, B⟩
    clear vP0 vP1 vQ0 vQ1 vR0 vR1 vV0 vV1
    have HB3 := Lib.hid (HB2.out.trans (B.mono HB2.out.size))
    have FP_3 := Lib.hid (FP_2.out.below B (Nat.le_refl _))
    have FQ_3 := Lib.hid (FQ_2.out.below B (Nat.le_refl _))
    have FR_3 := Lib.hid (FR_2.out.below B (Nat.le_refl _))
    have FV_3 := Lib.hid (FV_2.out.below B (Nat.le_refl _))
    clear B  HB2 FP_2 FQ_2 FR_2 FV_2
    rw [E1.out]
    have vP0 := FP_3.out.cell 0 (v := .int .i64 ax) rfl
    have vP1 := FP_3.out.cell 1 (v := .int .i64 ay) rfl
    have vQ0 := FQ_3.out.cell 0 (v := .int .i64 bx) rfl
    have vQ1 := FQ_3.out.cell 1 (v := .int .i64 b_) rfl
    have vR0 := FR_3.out.cell 0 (v := .int .i64 cx) rfl
    have vR1 := FR_3.out.cell 1 (v := .int .i64 cy) rfl
    have vV0 := FV_3.out.cell 0 (v := .int .i64 dx) rfl
    have vV1 := FV_3.out.cell 1 (v := .int .i64 dy) rfl
    go_wp2_with fail
    refine (ref8_Contains ax ay bx b_ dx dy ⟨hp.a, hp.b, hp.c, hp.d, hp.g, hp.h⟩ _).mono ?_
    rintro e w4 ⟨rfl, B⟩
    clear vP0 vP1 vQ0 vQ1 vR0 vR1 vV0 vV1
    have HB4 := Lib.hid (HB3.out.trans (B.mono HB3.out.size))
    have FP_4 := Lib.hid (FP_3.out.below B (Nat.le_refl _))
    have FQ_4 := Lib.hid (FQ_3.out.below B (Nat.le_refl _))
    have FR_4 := Lib.hid (FR_3.out.below B (Nat.le_refl _))
    have FV_4 := Lib.hid (FV_3.out.below B (Nat.le_refl _))
    clear B  HB3 FP_3 FQ_3 FR_3 FV_3
    rw [E2.out]
    have vP0 := FP_4.out.cell 0 (v := .int .i64 ax) rfl
    have vP1 := FP_4.out.cell 1 (v := .int .i64 ay) rfl
    have vQ0 := FQ_4.out.cell 0 (v := .int .i64 bx) rfl
    have vQ1 := FQ_4.out.cell 1 (v := .int .i64 b_) rfl
    have vR0 := FR_4.out.cell 0 (v := .int .i64 cx) rfl
    have vR1 := FR_4.out.cell 1 (v := .int .i64 cy) rfl
    have vV0 := FV_4.out.cell 0 (v := .int .i64 dx) rfl
    have vV1 := FV_4.out.cell 1 (v := .int .i64 dy) rfl
    go_wp2_with fail
    go_ret
    exact ⟨rfl, HB4.out⟩
  have E2 := Lib.hid e2; clear e2
  cases e3 : contB cx cy dx dy ax ay
  rotate_left
  · have E3 := Lib.hid e3; clear e3; simp only [Bool.true_or, Bool.false_or]
    go_enter Tryd.func30, Tryd.ntmps30
    go_wp2_with fail
    have B : Below w.heap.size w ((((w.alloc (.cells #[.int .i64 ax, .int .i64 ay] 28)).alloc (.cells #[.int .i64 bx, .int .i64 b_] 28)).alloc (.cells #[.int .i64 cx, .int .i64 cy] 28)).alloc (.cells #[.int .i64 dx, .int .i64 dy] 28)) := ((((HB0.out.alloc HB0.out.size _).alloc (HB0.out.alloc HB0.out.size _).size _).alloc ((HB0.out.alloc HB0.out.size _).alloc (HB0.out.alloc HB0.out.size _).size _).size _).alloc (((HB0.out.alloc HB0.out.size _).alloc (HB0.out.alloc HB0.out.size _).size _).alloc ((HB0.out.alloc HB0.out.size _).alloc (HB0.out.alloc HB0.out.size _).size _).size _).size _)
    have C : Below w.heap.size w ((((w.alloc (.cells #[.int .i64 ax, .int .i64 ay] 28)).alloc (.cells #[.int .i64 bx, .int .i64 b_] 28)).alloc (.cells #[.int .i64 cx, .int .i64 cy] 28)).alloc (.cells #[.int .i64 dx, .int .i64 dy] 28)) := (((((Below.refl w.heap.size w).alloc (Nat.le_refl _) _).alloc (by simp; try omega) _).alloc (by simp; try omega) _).alloc (by simp; try omega) _)
    have X0 : Bx ((((w.alloc (.cells #[.int .i64 ax, .int .i64 ay] 28)).alloc (.cells #[.int .i64 bx, .int .i64 b_] 28)).alloc (.cells #[.int .i64 cx, .int .i64 cy] 28)).alloc (.cells #[.int .i64 dx, .int .i64 dy] 28)) (w.heap.size) #[.int .i64 ax, .int .i64 ay] 28 := by simpa using ((((Bx.new w #[.int .i64 ax, .int .i64 ay] 28).alloc _).alloc _).alloc _)
    have X1 : Bx ((((w.alloc (.cells #[.int .i64 ax, .int .i64 ay] 28)).alloc (.cells #[.int .i64 bx, .int .i64 b_] 28)).alloc (.cells #[.int .i64 cx, .int .i64 cy] 28)).alloc (.cells #[.int .i64 dx, .int .i64 dy] 28)) (w.heap.size + 1) #[.int .i64 bx, .int .i64 b_] 28 := by simpa using (((Bx.new (w.alloc (.cells #[.int .i64 ax, .int .i64 ay] 28)) #[.int .i64 bx, .int .i64 b_] 28).alloc _).alloc _)
    have X2 : Bx ((((w.alloc (.cells #[.int .i64 ax, .int .i64 ay] 28)).alloc (.cells #[.int .i64 bx, .int .i64 b_] 28)).alloc (.cells #[.int .i64 cx, .int .i64 cy] 28)).alloc (.cells #[.int .i64 dx, .int .i64 dy] 28)) (w.heap.size + 1 + 1) #[.int .i64 cx, .int .i64 cy] 28 := by simpa using ((Bx.new ((w.alloc (.cells #[.int .i64 ax, .int .i64 ay] 28)).alloc (.cells #[.int .i64 bx, .int .i64 b_] 28)) #[.int .i64 cx, .int .i64 cy] 28).alloc _)
    have X3 : Bx ((((w.alloc (.cells #[.int .i64 ax, .int .i64 ay] 28)).alloc (.cells #[.int .i64 bx, .int .i64 b_] 28)).alloc (.cells #[.int .i64 cx, .int .i64 cy] 28)).alloc (.cells #[.int .i64 dx, .int .i64 dy] 28)) (w.heap.size + 1 + 1 + 1) #[.int .i64 dx, .int .i64 dy] 28 := by simpa using (Bx.new (((w.alloc (.cells #[.int .i64 ax, .int .i64 ay] 28)).alloc (.cells #[.int .i64 bx, .int .i64 b_] 28)).alloc (.cells #[.int .i64 cx, .int .i64 cy] 28)) #[.int .i64 dx, .int .i64 dy] 28)
    have HB1 := Lib.hid B
    have FP_1 := Lib.hid X0
    have FQ_1 := Lib.hid X1
    have FR_1 := Lib.hid X2
    have FV_1 := Lib.hid X3
    clear B C X0 X1 X2 X3 HB0 
    generalize ((((w.alloc (.cells #[.int .i64 ax, .int .i64 ay] 28)).alloc (.cells #[.int .i64 bx, .int .i64 b_] 28)).alloc (.cells #[.int .i64 cx, .int .i64 cy] 28)).alloc (.cells #[.int .i64 dx, .int .i64 dy] 28)) = w1 at *
    skip
    refine (ref8_Crosses ax ay bx b_ cx cy dx dy hp _).mono ?_
    rintro e w2 ⟨rfl, B⟩
    have HB2 := Lib.hid (HB1.out.trans (B.mono HB1.out.size))
    have FP_2 := Lib.hid (FP_1.out.below B (Nat.le_refl _))
    have FQ_2 := Lib.hid (FQ_1.out.below B (Nat.le_refl _))
    have FR_2 := Lib.hid (FR_1.out.below B (Nat.le_refl _))
    have FV_2 := Lib.hid (FV_1.out.below B (Nat.le_refl _))
    clear B  HB1 FP_1 FQ_1 FR_1 FV_1
    rw [E0.out]
    have vP0 := FP_2.out.cell 0 (v := .int .i64 ax) rfl
    have vP1 := FP_2.out.cell 1 (v := .int .i64 ay) rfl
    have vQ0 := FQ_2.out.cell 0 (v := .int .i64 bx) rfl
    have vQ1 := FQ_2.out.cell 1 (v := .int .i64 b_) rfl
    have vR0 := FR_2.out.cell 0 (v := .int .i64 cx) rfl
    have vR1 := FR_2.out.cell 1 (v := .int .i64 cy) rfl
    have vV0 := FV_2.out.cell 0 (v := .int .i64 dx) rfl
    have vV1 := FV_2.out.cell 1 (v := .int .i64 dy) rfl
    go_wp2_with fail
    refine (ref8_Contains ax ay bx b_ cx cy ⟨hp.a, hp.b, hp.c, hp.d, hp.e, hp.f⟩ _).mono ?_
    rintro e w3 ⟨rfl, B⟩
    clear vP0 vP1 vQ0 vQ1 vR0 vR1 vV0 vV1
    have HB3 := Lib.hid (HB2.out.trans (B.mono HB2.out.size))
    have FP_3 := Lib.hid (FP_2.out.below B (Nat.le_refl _))
    have FQ_3 := Lib.hid (FQ_2.out.below B (Nat.le_refl _))
    have FR_3 := Lib.hid (FR_2.out.below B (Nat.le_refl _))
    have FV_3 := Lib.hid (FV_2.out.below B (Nat.le_refl _))
    clear B  HB2 FP_2 FQ_2 FR_2 FV_2
    rw [E1.out]
    have vP0 := FP_3.out.cell 0 (v := .int .i64 ax) rfl
    have vP1 := FP_3.out.cell 1 (v := .int .i64 ay) rfl
    have vQ0 := FQ_3.out.cell 0 (v := .int .i64 bx) rfl
    have vQ1 := FQ_3.out.cell 1 (v := .int .i64 b_) rfl
    have vR0 := FR_3.out.cell 0 (v := .int .i64 cx) rfl
    have vR1 := FR_3.out.cell 1 (v := .int .i64 cy) rfl
    have vV0 := FV_3.out.cell 0 (v := .int .i64 dx) rfl
    have vV1 := FV_3.out.cell 1 (v := .int .i64 dy) rfl
    go_wp2_with fail
    refine (ref8_Contains ax ay bx b_ dx dy ⟨hp.a, hp.b, hp.c, hp.d, hp.g, hp.h⟩ _).mono ?_
    rintro e w4 ⟨rfl, B⟩
    clear vP0 vP1 vQ0 vQ1 vR0 vR1 vV0 vV1
    have HB4 := Lib.hid (HB3.out.trans (B.mono HB3.out.size))
    have FP_4 := Lib.hid (FP_3.out.below B (Nat.le_refl _))
    have FQ_4 := Lib.hid (FQ_3.out.below B (Nat.le_refl _))
    have FR_4 := Lib.hid (FR_3.out.below B (Nat.le_refl _))
    have FV_4 := Lib.hid (FV_3.out.below B (Nat.le_refl _))
    clear B  HB3 FP_3 FQ_3 FR_3 FV_3
    rw [E2.out]
    have vP0 := FP_4.out.cell 0 (v := .int .i64 ax) rfl
    have vP1 := FP_4.out.cell 1 (v := .int .i64 ay) rfl
    have vQ0 := FQ_4.out.cell 0 (v := .int .i64 bx) rfl
    have vQ1 := FQ_4.out.cell 1 (v := .int .i64 b_) rfl
    have vR0 := FR_4.out.cell 0 (v := .int .i64 cx) rfl
    have vR1 := FR_4.out.cell 1 (v := .int .i64 cy) rfl
    have vV0 := FV_4.out.cell 0 (v := .int .i64 dx) rfl
    have vV1 := FV_4.out.cell 1 (v := .int .i64 dy) rfl
    go_wp2_with fail
    refine (ref8_Contains cx cy dx dy ax ay ⟨hp.e, hp.f, hp.g, hp.h, hp.a, hp.b⟩ _).mono ?_
    rintro e w5 ⟨rfl, B⟩
    clear vP0 vP1 vQ0 vQ1 vR0 vR1 vV0 vV1
    have HB5 := Lib.hid (HB4.out.trans (B.mono HB4.out.size))
    have FP_5 := Lib.hid (FP_4.out.below B (Nat.le_refl _))
    have FQ_5 := Lib.hid (FQ_4.out.below B (Nat.le_refl _))
    have FR_5 := Lib.hid (FR_4.out.below B (Nat.le_refl _))
    have FV_5 := Lib.hid (FV_4.out.below B (Nat.le_refl _))
    clear B  HB4 FP_4 FQ_4 FR_4 FV_4
    rw [E3.out]
    have vP0 := FP_5.out.cell 0 (v := .int .i64 ax) rfl
    have vP1 := FP_5.out.cell 1 (v := .int .i64 ay) rfl
    have vQ0 := FQ_5.out.cell 0 (v := .int .i64 bx) rfl
    have vQ1 := FQ_5.out.cell 1 (v := .int .i64 b_) rfl
    have vR0 := FR_5.out.cell 0 (v := .int .i64 cx) rfl
    have vR1 := FR_5.out.cell 1 (v := .int .i64 cy) rfl
    have vV0 := FV_5.out.cell 0 (v := .int .i64 dx) rfl
    have vV1 := FV_5.out.cell 1 (v := .int .i64 dy) rfl
    go_wp2_with fail
    go_ret
    exact ⟨rfl, HB5.out⟩
  have E3 := Lib.hid e3; clear e3
  simp only [Bool.false_or]
  go_enter Tryd.func30, Tryd.ntmps30
  go_wp2_with fail
  have B : Below w.heap.size w ((((w.alloc (.cells #[.int .i64 ax, .int .i64 ay] 28)).alloc (.cells #[.int .i64 bx, .int .i64 b_] 28)).alloc (.cells #[.int .i64 cx, .int .i64 cy] 28)).alloc (.cells #[.int .i64 dx, .int .i64 dy] 28)) := ((((HB0.out.alloc HB0.out.size _).alloc (HB0.out.alloc HB0.out.size _).size _).alloc ((HB0.out.alloc HB0.out.size _).alloc (HB0.out.alloc HB0.out.size _).size _).size _).alloc (((HB0.out.alloc HB0.out.size _).alloc (HB0.out.alloc HB0.out.size _).size _).alloc ((HB0.out.alloc HB0.out.size _).alloc (HB0.out.alloc HB0.out.size _).size _).size _).size _)
  have C : Below w.heap.size w ((((w.alloc (.cells #[.int .i64 ax, .int .i64 ay] 28)).alloc (.cells #[.int .i64 bx, .int .i64 b_] 28)).alloc (.cells #[.int .i64 cx, .int .i64 cy] 28)).alloc (.cells #[.int .i64 dx, .int .i64 dy] 28)) := (((((Below.refl w.heap.size w).alloc (Nat.le_refl _) _).alloc (by simp; try omega) _).alloc (by simp; try omega) _).alloc (by simp; try omega) _)
  have X0 : Bx ((((w.alloc (.cells #[.int .i64 ax, .int .i64 ay] 28)).alloc (.cells #[.int .i64 bx, .int .i64 b_] 28)).alloc (.cells #[.int .i64 cx, .int .i64 cy] 28)).alloc (.cells #[.int .i64 dx, .int .i64 dy] 28)) (w.heap.size) #[.int .i64 ax, .int .i64 ay] 28 := by simpa using ((((Bx.new w #[.int .i64 ax, .int .i64 ay] 28).alloc _).alloc _).alloc _)
  have X1 : Bx ((((w.alloc (.cells #[.int .i64 ax, .int .i64 ay] 28)).alloc (.cells #[.int .i64 bx, .int .i64 b_] 28)).alloc (.cells #[.int .i64 cx, .int .i64 cy] 28)).alloc (.cells #[.int .i64 dx, .int .i64 dy] 28)) (w.heap.size + 1) #[.int .i64 bx, .int .i64 b_] 28 := by simpa using (((Bx.new (w.alloc (.cells #[.int .i64 ax, .int .i64 ay] 28)) #[.int .i64 bx, .int .i64 b_] 28).alloc _).alloc _)
  have X2 : Bx ((((w.alloc (.cells #[.int .i64 ax, .int .i64 ay] 28)).alloc (.cells #[.int .i64 bx, .int .i64 b_] 28)).alloc (.cells #[.int .i64 cx, .int .i64 cy] 28)).alloc (.cells #[.int .i64 dx, .int .i64 dy] 28)) (w.heap.size + 1 + 1) #[.int .i64 cx, .int .i64 cy] 28 := by simpa using ((Bx.new ((w.alloc (.cells #[.int .i64 ax, .int .i64 ay] 28)).alloc (.cells #[.int .i64 bx, .int .i64 b_] 28)) #[.int .i64 cx, .int .i64 cy] 28).alloc _)
  have X3 : Bx ((((w.alloc (.cells #[.int .i64 ax, .int .i64 ay] 28)).alloc (.cells #[.int .i64 bx, .int .i64 b_] 28)).alloc (.cells #[.int .i64 cx, .int .i64 cy] 28)).alloc (.cells #[.int .i64 dx, .int .i64 dy] 28)) (w.heap.size + 1 + 1 + 1) #[.int .i64 dx, .int .i64 dy] 28 := by simpa using (Bx.new (((w.alloc (.cells #[.int .i64 ax, .int .i64 ay] 28)).alloc (.cells #[.int .i64 bx, .int .i64 b_] 28)).alloc (.cells #[.int .i64 cx, .int .i64 cy] 28)) #[.int .i64 dx, .int .i64 dy] 28)
  have HB1 := Lib.hid B
  have FP_1 := Lib.hid X0
  have FQ_1 := Lib.hid X1
  have FR_1 := Lib.hid X2
  have FV_1 := Lib.hid X3
  clear B C X0 X1 X2 X3 HB0 
  generalize ((((w.alloc (.cells #[.int .i64 ax, .int .i64 ay] 28)).alloc (.cells #[.int .i64 bx, .int .i64 b_] 28)).alloc (.cells #[.int .i64 cx, .int .i64 cy] 28)).alloc (.cells #[.int .i64 dx, .int .i64 dy] 28)) = w1 at *
  skip
  refine (ref8_Crosses ax ay bx b_ cx cy dx dy hp _).mono ?_
  rintro e w2 ⟨rfl, B⟩
  have HB2 := Lib.hid (HB1.out.trans (B.mono HB1.out.size))
  have FP_2 := Lib.hid (FP_1.out.below B (Nat.le_refl _))
  have FQ_2 := Lib.hid (FQ_1.out.below B (Nat.le_refl _))
  have FR_2 := Lib.hid (FR_1.out.below B (Nat.le_refl _))
  have FV_2 := Lib.hid (FV_1.out.below B (Nat.le_refl _))
  clear B  HB1 FP_1 FQ_1 FR_1 FV_1
  rw [E0.out]
  have vP0 := FP_2.out.cell 0 (v := .int .i64 ax) rfl
  have vP1 := FP_2.out.cell 1 (v := .int .i64 ay) rfl
  have vQ0 := FQ_2.out.cell 0 (v := .int .i64 bx) rfl
  have vQ1 := FQ_2.out.cell 1 (v := .int .i64 b_) rfl
  have vR0 := FR_2.out.cell 0 (v := .int .i64 cx) rfl
  have vR1 := FR_2.out.cell 1 (v := .int .i64 cy) rfl
  have vV0 := FV_2.out.cell 0 (v := .int .i64 dx) rfl
  have vV1 := FV_2.out.cell 1 (v := .int .i64 dy) rfl
  go_wp2_with fail
  refine (ref8_Contains ax ay bx b_ cx cy ⟨hp.a, hp.b, hp.c, hp.d, hp.e, hp.f⟩ _).mono ?_
  rintro e w3 ⟨rfl, B⟩
  clear vP0 vP1 vQ0 vQ1 vR0 vR1 vV0 vV1
  have HB3 := Lib.hid (HB2.out.trans (B.mono HB2.out.size))
  have FP_3 := Lib.hid (FP_2.out.below B (Nat.le_refl _))
  have FQ_3 := Lib.hid (FQ_2.out.below B (Nat.le_refl _))
  have FR_3 := Lib.hid (FR_2.out.below B (Nat.le_refl _))
  have FV_3 := Lib.hid (FV_2.out.below B (Nat.le_refl _))
  clear B  HB2 FP_2 FQ_2 FR_2 FV_2
  rw [E1.out]
  have vP0 := FP_3.out.cell 0 (v := .int .i64 ax) rfl
  have vP1 := FP_3.out.cell 1 (v := .int .i64 ay) rfl
  have vQ0 := FQ_3.out.cell 0 (v := .int .i64 bx) rfl
  have vQ1 := FQ_3.out.cell 1 (v := .int .i64 b_) rfl
  have vR0 := FR_3.out.cell 0 (v := .int .i64 cx) rfl
  have vR1 := FR_3.out.cell 1 (v := .int .i64 cy) rfl
  have vV0 := FV_3.out.cell 0 (v := .int .i64 dx) rfl
  have vV1 := FV_3.out.cell 1 (v := .int .i64 dy) rfl
  go_wp2_with fail
  refine (ref8_Contains ax ay bx b_ dx dy ⟨hp.a, hp.b, hp.c, hp.d, hp.g, hp.h⟩ _).mono ?_
  rintro e w4 ⟨rfl, B⟩
  clear vP0 vP1 vQ0 vQ1 vR0 vR1 vV0 vV1
  have HB4 := Lib.hid (HB3.out.trans (B.mono HB3.out.size))
  have FP_4 := Lib.hid (FP_3.out.below B (Nat.le_refl _))
  have FQ_4 := Lib.hid (FQ_3.out.below B (Nat.le_refl _))
  have FR_4 := Lib.hid (FR_3.out.below B (Nat.le_refl _))
  have FV_4 := Lib.hid (FV_3.out.below B (Nat.le_refl _))
  clear B  HB3 FP_3 FQ_3 FR_3 FV_3
  rw [E2.out]
  have vP0 := FP_4.out.cell 0 (v := .int .i64 ax) rfl
  have vP1 := FP_4.out.cell 1 (v := .int .i64 ay) rfl
  have vQ0 := FQ_4.out.cell 0 (v := .int .i64 bx) rfl
  have vQ1 := FQ_4.out.cell 1 (v := .int .i64 b_) rfl
  have vR0 := FR_4.out.cell 0 (v := .int .i64 cx) rfl
  have vR1 := FR_4.out.cell 1 (v := .int .i64 cy) rfl
  have vV0 := FV_4.out.cell 0 (v := .int .i64 dx) rfl
  have vV1 := FV_4.out.cell 1 (v := .int .i64 dy) rfl
  go_wp2_with fail
  refine (ref8_Contains cx cy dx dy ax ay ⟨hp.e, hp.f, hp.g, hp.h, hp.a, hp.b⟩ _).mono ?_
  rintro e w5 ⟨rfl, B⟩
  clear vP0 vP1 vQ0 vQ1 vR0 vR1 vV0 vV1
  have HB5 := Lib.hid (HB4.out.trans (B.mono HB4.out.size))
  have FP_5 := Lib.hid (FP_4.out.below B (Nat.le_refl _))
  have FQ_5 := Lib.hid (FQ_4.out.below B (Nat.le_refl _))
  have FR_5 := Lib.hid (FR_4.out.below B (Nat.le_refl _))
  have FV_5 := Lib.hid (FV_4.out.below B (Nat.le_refl _))
  clear B  HB4 FP_4 FQ_4 FR_4 FV_4
  rw [E3.out]
  have vP0 := FP_5.out.cell 0 (v := .int .i64 ax) rfl
  have vP1 := FP_5.out.cell 1 (v := .int .i64 ay) rfl
  have vQ0 := FQ_5.out.cell 0 (v := .int .i64 bx) rfl
  have vQ1 := FQ_5.out.cell 1 (v := .int .i64 b_) rfl
  have vR0 := FR_5.out.cell 0 (v := .int .i64 cx) rfl
  have vR1 := FR_5.out.cell 1 (v := .int .i64 cy) rfl
  have vV0 := FV_5.out.cell 0 (v := .int .i64 dx) rfl
  have vV1 := FV_5.out.cell 1 (v := .int .i64 dy) rfl
  go_wp2_with fail
  refine (ref8_Contains cx cy dx dy bx b_ ⟨hp.e, hp.f, hp.g, hp.h, hp.c, hp.d⟩ _).mono ?_
  rintro e w6 ⟨rfl, B⟩
  clear vP0 vP1 vQ0 vQ1 vR0 vR1 vV0 vV1
  have HB6 := Lib.hid (HB5.out.trans (B.mono HB5.out.size))
  have FP_6 := Lib.hid (FP_5.out.below B (Nat.le_refl _))
  have FQ_6 := Lib.hid (FQ_5.out.below B (Nat.le_refl _))
  have FR_6 := Lib.hid (FR_5.out.below B (Nat.le_refl _))
  have FV_6 := Lib.hid (FV_5.out.below B (Nat.le_refl _))
  clear B  HB5 FP_5 FQ_5 FR_5 FV_5
  have vP0 := FP_6.out.cell 0 (v := .int .i64 ax) rfl
  have vP1 := FP_6.out.cell 1 (v := .int .i64 ay) rfl
  have vQ0 := FQ_6.out.cell 0 (v := .int .i64 bx) rfl
  have vQ1 := FQ_6.out.cell 1 (v := .int .i64 b_) rfl
  have vR0 := FR_6.out.cell 0 (v := .int .i64 cx) rfl
  have vR1 := FR_6.out.cell 1 (v := .int .i64 cy) rfl
  have vV0 := FV_6.out.cell 0 (v := .int .i64 dx) rfl
  have vV1 := FV_6.out.cell 1 (v := .int .i64 dy) rfl
  go_wp2_with fail
  go_ret
  exact ⟨rfl, HB6.out⟩
end Go.Proofs.YtoikcgmdlccdbaaDoor
