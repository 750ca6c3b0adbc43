/- Contracts of the reference of layer 7: the lifted determinant, the side. Contracts of segment.Within and of its reference. Contracts of the reference of layer 8: Within, Contains. Contracts of segment.opposite, Contains and Crosses. Contract of segment.Meets. Contracts of the reference of layer 8: Contains, Crosses, Meets. Contracts of the reference of layer 15. The reference's fence: valid, where a point lies, a member. The engine's answer to a query about a fence. -/
import Derived.Test.YtjdiilkljgljkaaGreatDoorMf
import Derived.Test.YtjdiilkljgljkaaGreatDoorMd
import Derived.Deep.DeepCutAuto
import Derived.Test.YtjdiilkljgljkaaGreatDoorMc
import Derived.Deep.RegionHeld3
import Derived.Test.YtjdiilkljgljkaaGreatDoorMe
import Derived.Test.YtjdiilkljgljkaaGreatDoorMh
import Derived.Test.YtjdiilkljgljkaaGreatDoorMg
import Derived.Test.YtjdiilkljgljkaaGreatDoorMb
namespace Go.Proofs.YtjdiilkljgljkaaGreatDoor
set_option linter.unusedVariables false
set_option linter.unusedSimpArgs false
open Go.RowKit Wd

set_option maxHeartbeats 1000000 in
theorem ref7_lift (ax ay : Int) (h1 : IsI ax) (h2 : IsI ay) (w : World) :
    Calls Tryz.prog 33 #[.agg #[.int .i64 ax, .int .i64 ay]] w fun e w' => (∃ A k c, e = .returned (.agg #[.int .i64 (sg (ax * ax + ay * ay)), .slice A k c]) ∧ k ≤ 9 ∧ Nm w' A k c (ax * ax + ay * ay)) ∧ Below w.heap.size w w' := by
  have HB0 := Lib.hid (Below.refl w.heap.size w)
  go_enter Tryz.func33, Tryz.ntmps33
  go_wp2_with fail
  have B : Below w.heap.size w ((w.alloc (.cells #[.int .i64 ax, .int .i64 ay] 23)).alloc (.cells #[.int .i64 0, .slice none 0 0] 41)) := ((HB0.out.alloc HB0.out.size _).alloc (HB0.out.alloc HB0.out.size _).size _)
  have C : Below w.heap.size w ((w.alloc (.cells #[.int .i64 ax, .int .i64 ay] 23)).alloc (.cells #[.int .i64 0, .slice none 0 0] 41)) := (((Below.refl w.heap.size w).alloc (Nat.le_refl _) _).alloc (by simp; try omega) _)
  have X0 : Bx ((w.alloc (.cells #[.int .i64 ax, .int .i64 ay] 23)).alloc (.cells #[.int .i64 0, .slice none 0 0] 41)) (w.heap.size) #[.int .i64 ax, .int .i64 ay] 23 := by simpa using ((Bx.new w #[.int .i64 ax, .int .i64 ay] 23).alloc _)
  have X1 : Bx ((w.alloc (.cells #[.int .i64 ax, .int .i64 ay] 23)).alloc (.cells #[.int .i64 0, .slice none 0 0] 41)) (w.heap.size + 1) #[.int .i64 0, .slice none 0 0] 41 := by simpa using (Bx.new (w.alloc (.cells #[.int .i64 ax, .int .i64 ay] 23)) #[.int .i64 0, .slice none 0 0] 41)
  have HB1 := Lib.hid B
  have FP_1 := Lib.hid X0
  have FR_1 := Lib.hid X1
  clear B C X0 X1 HB0 
  generalize ((w.alloc (.cells #[.int .i64 ax, .int .i64 ay] 23)).alloc (.cells #[.int .i64 0, .slice none 0 0] 41)) = w1 at *
  skip
  refine (ref3_Int ax h1 _).mono ?_
  rintro e w2 ⟨⟨A1, k1, c1, rfl, b1, N1⟩, B⟩
  have HB2 := Lib.hid (HB1.out.trans (B.mono HB1.out.size))
  have FP_2 := Lib.hid (FP_1.out.below B (Nat.le_refl _))
  have FR_2 := Lib.hid (FR_1.out.below B (Nat.le_refl _))
  have FN1_2 := Lib.hid N1
  clear B N1 HB1 FP_1 FR_1
  have vP0 := FP_2.out.cell 0 (v := .int .i64 ax) rfl
  have vP1 := FP_2.out.cell 1 (v := .int .i64 ay) rfl
  have vlP := FP_2.out.lt
  go_wp2_with fail
  clear vP0 vP1 vlP
  have nb2 := FR_2.out.lt
  have B : Below w.heap.size w (w2.alloc (.cells #[.int .i64 (sg (ax)), .slice A1 k1 c1] 41)) := (HB2.out.alloc HB2.out.size _)
  have C : Below w2.heap.size w2 (w2.alloc (.cells #[.int .i64 (sg (ax)), .slice A1 k1 c1] 41)) := ((Below.refl w2.heap.size w2).alloc (Nat.le_refl _) _)
  have X0 : Bx (w2.alloc (.cells #[.int .i64 (sg (ax)), .slice A1 k1 c1] 41)) (w2.heap.size) #[.int .i64 (sg (ax)), .slice A1 k1 c1] 41 := by simpa using (Bx.new w2 #[.int .i64 (sg (ax)), .slice A1 k1 c1] 41)
  have FP_3 := Lib.hid (FP_2.out.below C (Nat.le_refl _))
  have FR_3 := Lib.hid (FR_2.out.below C (Nat.le_refl _))
  have FN1_3 := Lib.hid (FN1_2.out.below C (Nat.le_refl _))
  have HB3 := Lib.hid B
  have FX_3 := Lib.hid X0
  clear B C X0 HB2 FP_2 FR_2 FN1_2
  generalize (w2.alloc (.cells #[.int .i64 (sg (ax)), .slice A1 k1 c1] 41)) = w3 at *
  skip
  refine (ref3_Int ay h2 _).mono ?_
  rintro e w4 ⟨⟨A2, k2, c2, rfl, b2, N2⟩, B⟩
  have HB4 := Lib.hid (HB3.out.trans (B.mono HB3.out.size))
  have FP_4 := Lib.hid (FP_3.out.below B (Nat.le_refl _))
  have FR_4 := Lib.hid (FR_3.out.below B (Nat.le_refl _))
  have FN1_4 := Lib.hid (FN1_3.out.below B (Nat.le_refl _))
  have FX_4 := Lib.hid (FX_3.out.below B (Nat.le_refl _))
  have FN2_4 := Lib.hid N2
  clear B N2 HB3 FP_3 FR_3 FN1_3 FX_3
  go_wp2_with fail
  have nb4 := FR_4.out.lt
  have B : Below w.heap.size w (w4.alloc (.cells #[.int .i64 (sg (ay)), .slice A2 k2 c2] 41)) := (HB4.out.alloc HB4.out.size _)
  have C : Below w4.heap.size w4 (w4.alloc (.cells #[.int .i64 (sg (ay)), .slice A2 k2 c2] 41)) := ((Below.refl w4.heap.size w4).alloc (Nat.le_refl _) _)
  have X0 : Bx (w4.alloc (.cells #[.int .i64 (sg (ay)), .slice A2 k2 c2] 41)) (w4.heap.size) #[.int .i64 (sg (ay)), .slice A2 k2 c2] 41 := by simpa using (Bx.new w4 #[.int .i64 (sg (ay)), .slice A2 k2 c2] 41)
  have FP_5 := Lib.hid (FP_4.out.below C (Nat.le_refl _))
  have FR_5 := Lib.hid (FR_4.out.below C (Nat.le_refl _))
  have FN1_5 := Lib.hid (FN1_4.out.below C (Nat.le_refl _))
  have FX_5 := Lib.hid (FX_4.out.below C (Nat.le_refl _))
  have FN2_5 := Lib.hid (FN2_4.out.below C (Nat.le_refl _))
  have HB5 := Lib.hid B
  have FY_5 := Lib.hid X0
  clear B C X0 HB4 FP_4 FR_4 FN1_4 FX_4 FN2_4
  generalize (w4.alloc (.cells #[.int .i64 (sg (ay)), .slice A2 k2 c2] 41)) = w5 at *
  have RB5 := Lib.hid (below_drew0 w5)
  have QS5 := Lib.hid (show w5.cell? ⟨w2.heap.size, 0, none⟩ = some (.int .i64 (sg ax)) ∧ w5.cell? ⟨w2.heap.size, 1, none⟩ = some (.slice A1 k1 c1) ∧ w5.cell? ⟨w4.heap.size, 0, none⟩ = some (.int .i64 (sg ay)) ∧ w5.cell? ⟨w4.heap.size, 1, none⟩ = some (.slice A2 k2 c2) from ⟨FX_5.out.cell 0 (v := .int .i64 (sg ax)) rfl, FX_5.out.cell 1 (v := .slice A1 k1 c1) rfl, FY_5.out.cell 0 (v := .int .i64 (sg ay)) rfl, FY_5.out.cell 1 (v := .slice A2 k2 c2) rfl⟩)
  have QF5 := Lib.hid (show ∀ w', Below w5.heap.size w5 w' → w'.cell? ⟨w2.heap.size, 0, none⟩ = some (.int .i64 (sg ax)) ∧ w'.cell? ⟨w2.heap.size, 1, none⟩ = some (.slice A1 k1 c1) ∧ w'.cell? ⟨w4.heap.size, 0, none⟩ = some (.int .i64 (sg ay)) ∧ w'.cell? ⟨w4.heap.size, 1, none⟩ = some (.slice A2 k2 c2) from fun w' hb => ⟨(FX_5.out.below hb (Nat.le_refl _)).cell 0 (v := .int .i64 (sg ax)) rfl, (FX_5.out.below hb (Nat.le_refl _)).cell 1 (v := .slice A1 k1 c1) rfl, (FY_5.out.below hb (Nat.le_refl _)).cell 0 (v := .int .i64 (sg ay)) rfl, (FY_5.out.below hb (Nat.le_refl _)).cell 1 (v := .slice A2 k2 c2) rfl⟩)
  go_region_held3 (fun w' => w'.cell? ⟨w2.heap.size, 0, none⟩ = some (.int .i64 (sg ax)) ∧ w'.cell? ⟨w2.heap.size, 1, none⟩ = some (.slice A1 k1 c1) ∧ w'.cell? ⟨w4.heap.size, 0, none⟩ = some (.int .i64 (sg ay)) ∧ w'.cell? ⟨w4.heap.size, 1, none⟩ = some (.slice A2 k2 c2)) (first | with_reducible exact QF5.out _ RB8.out | with_reducible exact QF5.out _ RB7.out | with_reducible exact QF5.out _ RB6.out | with_reducible exact QS5.out | with_reducible exact QF5.out _ RB5.out | with_reducible exact ⟨keep_set (keep_set ((QF5.out _ RB8.out).1) (by simp <;> omega)) (by simp <;> omega), keep_set (keep_set ((QF5.out _ RB8.out).2.1) (by simp <;> omega)) (by simp <;> omega), keep_set (keep_set ((QF5.out _ RB8.out).2.2.1) (by simp <;> omega)) (by simp <;> omega), keep_set (keep_set ((QF5.out _ RB8.out).2.2.2) (by simp <;> omega)) (by simp <;> omega)⟩) (first
      | (go_at_call 34; have := RB7; clear this; refine (ref3_Add P1 P2 p1 g1 p2 g2 _ _ _ RM1_7.out RM2_7.out (by omega) (by omega)).mono ?_; rintro e w8 ⟨⟨P3, p3, g3, rfl, d3, M3⟩, B⟩; have RB8 := Lib.hid (RB7.out.trans (B.mono RB7.out.size)); have RM1_8 := Lib.hid (RM1_7.out.below B (Nat.le_refl _)); have RM2_8 := Lib.hid (RM2_7.out.below B (Nat.le_refl _)); have RM3_8 := Lib.hid M3; clear B M3; have q0 := (FR_5.out.below RB8.out (Nat.le_refl _)).cell 0 (v := .int .i64 0) rfl; have q1 := (FR_5.out.below RB8.out (Nat.le_refl _)).cell 1 (v := .slice none 0 0) rfl; have z0 := (FR_5.out.below RB8.out (Nat.le_refl _)).free 0; have z1 := (FR_5.out.below RB8.out (Nat.le_refl _)).free 1)
      | (go_at_call 32; have := RB6; clear this; refine (ref3_Mul A2 A2 k2 c2 k2 c2 _ _ _ (FN2_5.out.below RB6.out (Nat.le_refl _)) (FN2_5.out.below RB6.out (Nat.le_refl _)) (by omega) (by omega)).mono ?_; rintro e w7 ⟨⟨P2, p2, g2, rfl, d2, M2⟩, B⟩; have RB7 := Lib.hid (RB6.out.trans (B.mono RB6.out.size)); have RM1_7 := Lib.hid (RM1_6.out.below B (Nat.le_refl _)); have RM2_7 := Lib.hid M2; clear B M2)
      | (go_at_call 32; have := RB5; clear this; refine (ref3_Mul A1 A1 k1 c1 k1 c1 _ _ _ (FN1_5.out.below RB5.out (Nat.le_refl _)) (FN1_5.out.below RB5.out (Nat.le_refl _)) (by omega) (by omega)).mono ?_; rintro e w6 ⟨⟨P1, p1, g1, rfl, d1, M1⟩, B⟩; have RB6 := Lib.hid (RB5.out.trans (B.mono RB5.out.size)); have RM1_6 := Lib.hid M1; clear B M1))
  have FP_8 := Lib.hid (FP_5.out.below RB8.out (Nat.le_refl _))
  have FR_8 := Lib.hid (FR_5.out.below RB8.out (Nat.le_refl _))
  have FN1_8 := Lib.hid (FN1_5.out.below RB8.out (Nat.le_refl _))
  have FX_8 := Lib.hid (FX_5.out.below RB8.out (Nat.le_refl _))
  have FN2_8 := Lib.hid (FN2_5.out.below RB8.out (Nat.le_refl _))
  have FY_8 := Lib.hid (FY_5.out.below RB8.out (Nat.le_refl _))
  have HB8 := Lib.hid (HB5.out.trans (RB8.out.mono HB5.out.size))
  clear HB5 FP_5 FR_5 FN1_5 FX_5 FN2_5 FY_5
  go_wp2_with fail
  have r0 := FR_8.out
  have r1 := r0.set 0 (.int .i64 (sg (ax * ax + ay * ay)))
  refine bodyPost_ret (v := .agg #[.int .i64 (sg (ax * ax + ay * ay)), .slice P3 p3 g3]) (by simp [results, Tryz.results33, go_sem, q0, q1]) rfl ⟨⟨P3, p3, g3, rfl, by omega, ((RM3_8.out.setB r0 (by decide)).setB r1 (by decide))⟩, ?_⟩
  exact ((HB8.out.setCell (p := ⟨w.heap.size + 1, 0, none⟩) (by simp <;> omega) _).setCell (p := ⟨w.heap.size + 1, 1, none⟩) (by simp <;> omega) _)

/-- a number lies in a box of its own -/
def CutN (w : World) (x : Int) (K : Nat) (s9 : Value) (wx : World) : Prop := ∃ (b : Nat) (A : Option Addr) (k c : Nat),
  s9 = .pointer (some ⟨b, 0, none⟩) ∧ w.heap.size ≤ b ∧ Bx wx b #[.int .i64 (sg x), .slice A k c] 41 ∧ k ≤ K ∧ Nm wx A k c x ∧ Below w.heap.size w wx
set_option maxHeartbeats 4000000 in
theorem ref7_Value (ax ay bx b_ cx cy dx dy : Int) (hp : P4 ax ay bx b_ cx cy dx dy) (w : World) :
    Calls Tryz.prog 13 #[.agg #[.int .i64 ax, .int .i64 ay], .agg #[.int .i64 bx, .int .i64 b_], .agg #[.int .i64 cx, .int .i64 cy], .agg #[.int .i64 dx, .int .i64 dy]] w fun e w' => (∃ A k c, e = .returned (.agg #[.int .i64 (sg (circ ax ay bx b_ cx cy dx dy)), .slice A k c]) ∧ k ≤ 22 ∧ Nm w' A k c (circ ax ay bx b_ cx cy dx dy)) ∧ Below w.heap.size w w' := by
  have HB0 := Lib.hid (Below.refl w.heap.size w)
  go_enter Tryz.func13, Tryz.ntmps13
  go_wp2_with fail
  have B : Below w.heap.size w (((((w.alloc (.cells #[.int .i64 ax, .int .i64 ay] 23)).alloc (.cells #[.int .i64 bx, .int .i64 b_] 23)).alloc (.cells #[.int .i64 cx, .int .i64 cy] 23)).alloc (.cells #[.int .i64 dx, .int .i64 dy] 23)).alloc (.cells #[.int .i64 0, .slice none 0 0] 41)) := (((((HB0.out.alloc HB0.out.size _).alloc (HB0.out.alloc HB0.out.size _).size _).alloc ((HB0.out.alloc HB0.out.size _).alloc (HB0.out.alloc HB0.out.size _).size _).size _).alloc (((HB0.out.alloc HB0.out.size _).alloc (HB0.out.alloc HB0.out.size _).size _).alloc ((HB0.out.alloc HB0.out.size _).alloc (HB0.out.alloc HB0.out.size _).size _).size _).size _).alloc ((((HB0.out.alloc HB0.out.size _).alloc (HB0.out.alloc HB0.out.size _).size _).alloc ((HB0.out.alloc HB0.out.size _).alloc (HB0.out.alloc HB0.out.size _).size _).size _).alloc (((HB0.out.alloc HB0.out.size _).alloc (HB0.out.alloc HB0.out.size _).size _).alloc ((HB0.out.alloc HB0.out.size _).alloc (HB0.out.alloc HB0.out.size _).size _).size _).size _).size _)
  have C : Below w.heap.size w (((((w.alloc (.cells #[.int .i64 ax, .int .i64 ay] 23)).alloc (.cells #[.int .i64 bx, .int .i64 b_] 23)).alloc (.cells #[.int .i64 cx, .int .i64 cy] 23)).alloc (.cells #[.int .i64 dx, .int .i64 dy] 23)).alloc (.cells #[.int .i64 0, .slice none 0 0] 41)) := ((((((Below.refl w.heap.size w).alloc (Nat.le_refl _) _).alloc (by simp; try omega) _).alloc (by simp; try omega) _).alloc (by simp; try omega) _).alloc (by simp; try omega) _)
  have X0 : Bx (((((w.alloc (.cells #[.int .i64 ax, .int .i64 ay] 23)).alloc (.cells #[.int .i64 bx, .int .i64 b_] 23)).alloc (.cells #[.int .i64 cx, .int .i64 cy] 23)).alloc (.cells #[.int .i64 dx, .int .i64 dy] 23)).alloc (.cells #[.int .i64 0, .slice none 0 0] 41)) (w.heap.size) #[.int .i64 ax, .int .i64 ay] 23 := by simpa using (((((Bx.new w #[.int .i64 ax, .int .i64 ay] 23).alloc _).alloc _).alloc _).alloc _)
  have X1 : Bx (((((w.alloc (.cells #[.int .i64 ax, .int .i64 ay] 23)).alloc (.cells #[.int .i64 bx, .int .i64 b_] 23)).alloc (.cells #[.int .i64 cx, .int .i64 cy] 23)).alloc (.cells #[.int .i64 dx, .int .i64 dy] 23)).alloc (.cells #[.int .i64 0, .slice none 0 0] 41)) (w.heap.size + 1) #[.int .i64 bx, .int .i64 b_] 23 := by simpa using ((((Bx.new (w.alloc (.cells #[.int .i64 ax, .int .i64 ay] 23)) #[.int .i64 bx, .int .i64 b_] 23).alloc _).alloc _).alloc _)
  have X2 : Bx (((((w.alloc (.cells #[.int .i64 ax, .int .i64 ay] 23)).alloc (.cells #[.int .i64 bx, .int .i64 b_] 23)).alloc (.cells #[.int .i64 cx, .int .i64 cy] 23)).alloc (.cells #[.int .i64 dx, .int .i64 dy] 23)).alloc (.cells #[.int .i64 0, .slice none 0 0] 41)) (w.heap.size + 1 + 1) #[.int .i64 cx, .int .i64 cy] 23 := by simpa using (((Bx.new ((w.alloc (.cells #[.int .i64 ax, .int .i64 ay] 23)).alloc (.cells #[.int .i64 bx, .int .i64 b_] 23)) #[.int .i64 cx, .int .i64 cy] 23).alloc _).alloc _)
  have X3 : Bx (((((w.alloc (.cells #[.int .i64 ax, .int .i64 ay] 23)).alloc (.cells #[.int .i64 bx, .int .i64 b_] 23)).alloc (.cells #[.int .i64 cx, .int .i64 cy] 23)).alloc (.cells #[.int .i64 dx, .int .i64 dy] 23)).alloc (.cells #[.int .i64 0, .slice none 0 0] 41)) (w.heap.size + 1 + 1 + 1) #[.int .i64 dx, .int .i64 dy] 23 := by simpa using ((Bx.new (((w.alloc (.cells #[.int .i64 ax, .int .i64 ay] 23)).alloc (.cells #[.int .i64 bx, .int .i64 b_] 23)).alloc (.cells #[.int .i64 cx, .int .i64 cy] 23)) #[.int .i64 dx, .int .i64 dy] 23).alloc _)
  have X4 : Bx (((((w.alloc (.cells #[.int .i64 ax, .int .i64 ay] 23)).alloc (.cells #[.int .i64 bx, .int .i64 b_] 23)).alloc (.cells #[.int .i64 cx, .int .i64 cy] 23)).alloc (.cells #[.int .i64 dx, .int .i64 dy] 23)).alloc (.cells #[.int .i64 0, .slice none 0 0] 41)) (w.heap.size + 1 + 1 + 1 + 1) #[.int .i64 0, .slice none 0 0] 41 := by simpa using (Bx.new ((((w.alloc (.cells #[.int .i64 ax, .int .i64 ay] 23)).alloc (.cells #[.int .i64 bx, .int .i64 b_] 23)).alloc (.cells #[.int .i64 cx, .int .i64 cy] 23)).alloc (.cells #[.int .i64 dx, .int .i64 dy] 23)) #[.int .i64 0, .slice none 0 0] 41)
  have HB1 := Lib.hid B
  have FP_1 := Lib.hid X0
  have FQ_1 := Lib.hid X1
  have FT_1 := Lib.hid X2
  have FV_1 := Lib.hid X3
  have FR_1 := Lib.hid X4
  clear B C X0 X1 X2 X3 X4 HB0 
  generalize (((((w.alloc (.cells #[.int .i64 ax, .int .i64 ay] 23)).alloc (.cells #[.int .i64 bx, .int .i64 b_] 23)).alloc (.cells #[.int .i64 cx, .int .i64 cy] 23)).alloc (.cells #[.int .i64 dx, .int .i64 dy] 23)).alloc (.cells #[.int .i64 0, .slice none 0 0] 41)) = w1 at *
  have rl0 := FR_1.out.lt
  go_upto_region 1 with (fail)
  have M0 := trivial
  have QF := Lib.hid (show ∀ w', Below w1.heap.size w1 w' → w'.cell? ⟨w.heap.size, 0, none⟩ = some (.int .i64 ax) ∧ w'.cell? ⟨w.heap.size, 1, none⟩ = some (.int .i64 ay) ∧ w'.cell? ⟨w.heap.size + 1, 0, none⟩ = some (.int .i64 bx) ∧ w'.cell? ⟨w.heap.size + 1, 1, none⟩ = some (.int .i64 b_) ∧ w'.cell? ⟨w.heap.size + 1 + 1, 0, none⟩ = some (.int .i64 cx) ∧ w'.cell? ⟨w.heap.size + 1 + 1, 1, none⟩ = some (.int .i64 cy) ∧ w'.cell? ⟨w.heap.size + 1 + 1 + 1, 0, none⟩ = some (.int .i64 dx) ∧ w'.cell? ⟨w.heap.size + 1 + 1 + 1, 1, none⟩ = some (.int .i64 dy) from fun w' hb => ⟨(FP_1.out.below hb (Nat.le_refl _)).cell 0 (v := .int .i64 ax) rfl, (FP_1.out.below hb (Nat.le_refl _)).cell 1 (v := .int .i64 ay) rfl, (FQ_1.out.below hb (Nat.le_refl _)).cell 0 (v := .int .i64 bx) rfl, (FQ_1.out.below hb (Nat.le_refl _)).cell 1 (v := .int .i64 b_) rfl, (FT_1.out.below hb (Nat.le_refl _)).cell 0 (v := .int .i64 cx) rfl, (FT_1.out.below hb (Nat.le_refl _)).cell 1 (v := .int .i64 cy) rfl, (FV_1.out.below hb (Nat.le_refl _)).cell 0 (v := .int .i64 dx) rfl, (FV_1.out.below hb (Nat.le_refl _)).cell 1 (v := .int .i64 dy) rfl⟩)
  go_cut [9] (fun s9 wx => CutN w1 ((ax * ax + ay * ay) * det bx b_ cx cy dx dy) 20 s9 wx)
  case first =>
    go_region_held3 (fun w' => w'.cell? ⟨w.heap.size, 0, none⟩ = some (.int .i64 ax) ∧ w'.cell? ⟨w.heap.size, 1, none⟩ = some (.int .i64 ay) ∧ w'.cell? ⟨w.heap.size + 1, 0, none⟩ = some (.int .i64 bx) ∧ w'.cell? ⟨w.heap.size + 1, 1, none⟩ = some (.int .i64 b_) ∧ w'.cell? ⟨w.heap.size + 1 + 1, 0, none⟩ = some (.int .i64 cx) ∧ w'.cell? ⟨w.heap.size + 1 + 1, 1, none⟩ = some (.int .i64 cy) ∧ w'.cell? ⟨w.heap.size + 1 + 1 + 1, 0, none⟩ = some (.int .i64 dx) ∧ w'.cell? ⟨w.heap.size + 1 + 1 + 1, 1, none⟩ = some (.int .i64 dy)) (first | (with_reducible refine QF.out _ ?_; (repeat (first | (with_reducible refine below_st ?_ ?_; (focus (first | with_reducible assumption | with_reducible exact Nat.le_refl _ | (simp; done) | omega | (simp <;> omega)))) | with_reducible refine below_tr ?_ C4.out | with_reducible refine below_tr ?_ C3.out | with_reducible refine below_tr ?_ C2.out | with_reducible refine below_al ?_ | with_reducible exact below_rf | with_reducible refine below_dr ?_)); done) | (with_reducible refine QF.out _ ?_; (repeat (first | (with_reducible refine below_st ?_ ?_; (focus (first | with_reducible assumption | with_reducible exact Nat.le_refl _ | (simp; done) | omega | (simp <;> omega)))) | with_reducible refine below_tr ?_ C3.out | with_reducible refine below_tr ?_ C2.out | with_reducible refine below_al ?_ | with_reducible exact below_rf | with_reducible refine below_dr ?_)); done) | (with_reducible refine QF.out _ ?_; (repeat (first | (with_reducible refine below_st ?_ ?_; (focus (first | with_reducible assumption | with_reducible exact Nat.le_refl _ | (simp; done) | omega | (simp <;> omega)))) | with_reducible refine below_tr ?_ C2.out | with_reducible refine below_al ?_ | with_reducible exact below_rf | with_reducible refine below_dr ?_)); done) | (with_reducible refine QF.out _ ?_; (repeat (first | (with_reducible refine below_st ?_ ?_; (focus (first | with_reducible assumption | with_reducible exact Nat.le_refl _ | (simp; done) | omega | (simp <;> omega)))) | with_reducible refine below_al ?_ | with_reducible exact below_rf | with_reducible refine below_dr ?_)); done)) (first
          | (go_at_call 32; clear M2; have M3 := trivial; refine (ref3_Mul P1 P2 p1 g1 p2 g2 _ _ _ (fwd_nm GL.out (by (repeat (first | with_reducible exact below_rf | with_reducible refine below_al ?_ | with_reducible refine below_dr ?_)))) (fwd_nm GD.out (by (repeat (first | with_reducible exact below_rf | with_reducible refine below_al ?_ | with_reducible refine below_dr ?_)))) (by omega) (by omega)).mono ?_; rintro e w4 ⟨⟨P3, p3, g3, rfl, d3, M3⟩, B⟩; have C4 := Lib.hid B; clear B; have hs4 : w1.heap.size ≤ w4.heap.size := Below.size (B := w1.heap.size) (by (repeat (first | (with_reducible refine below_st ?_ ?_; (focus (first | with_reducible assumption | with_reducible exact Nat.le_refl _ | (simp; done) | omega | (simp <;> omega)))) | with_reducible refine below_tr ?_ C4.out | with_reducible refine below_tr ?_ C3.out | with_reducible refine below_tr ?_ C2.out | with_reducible refine below_al ?_ | with_reducible exact below_rf | with_reducible refine below_dr ?_))); have GL_ := Lib.hid (fwd_nm (w' := w4) GL.out (by (repeat (first | with_reducible exact below_rf | with_reducible refine below_tr ?_ C4.out | with_reducible refine below_al ?_ | with_reducible refine below_dr ?_)))); clear GL; have GL := Lib.hid GL_.out; clear GL_; have GD_ := Lib.hid (fwd_nm (w' := w4) GD.out (by (repeat (first | with_reducible exact below_rf | with_reducible refine below_tr ?_ C4.out | with_reducible refine below_al ?_ | with_reducible refine below_dr ?_)))); clear GD; have GD := Lib.hid GD_.out; clear GD_; have GM := Lib.hid M3; clear M3; (try (refine have_then (T := Bx w4 (w1.heap.size) #[.int .i64 0, .slice none 0 0] 41) ?_ (fun y4_0_0 => ?_); (focus ((repeat (first | (with_reducible refine bx_new ?_; (focus (first | with_reducible rfl | (simp; done)))) | with_reducible refine bx_tr ?_ C4.out | with_reducible refine bx_tr ?_ C3.out | with_reducible refine bx_tr ?_ C2.out | with_reducible refine bx_set2 (z0 := .slice none 0 0) (z1 := .slice none 0 0) ?_ | with_reducible refine bx_set2 (z0 := .int .i64 0) (z1 := .slice none 0 0) ?_ | with_reducible refine bx_set4 (z0 := .int .i64 0) (z1 := .slice none 0 0) (z2 := .int .i64 0) (z3 := .slice none 0 0) ?_ | (with_reducible refine bx_ot ?_ ?_; (focus (first | with_reducible assumption | with_reducible exact Nat.le_refl _ | (simp; done) | omega | (simp <;> omega)))) | with_reducible refine bx_al ?_ | with_reducible refine bx_dr ?_)); done)); have y4_0_0c0 := y4_0_0.cell 0 (v := .int .i64 0) rfl; have y4_0_0f0 := y4_0_0.free 0; have y4_0_0c1 := y4_0_0.cell 1 (v := .slice none 0 0) rfl; have y4_0_0f1 := y4_0_0.free 1; have y4_0_0l := y4_0_0.lt; have y4_0_0n := Nat.ne_of_lt y4_0_0l; have y4_0_0m := Nat.ne_of_gt y4_0_0l; have y4_0_0h := Lib.hid y4_0_0; clear y4_0_0)); (try (refine have_then (T := Bx w4 (w2.heap.size) #[.int .i64 0, .slice none 0 0] 41) ?_ (fun y4_1_0 => ?_); (focus ((repeat (first | (with_reducible refine bx_new ?_; (focus (first | with_reducible rfl | (simp; done)))) | with_reducible refine bx_tr ?_ C4.out | with_reducible refine bx_tr ?_ C3.out | with_reducible refine bx_tr ?_ C2.out | with_reducible refine bx_set2 (z0 := .slice none 0 0) (z1 := .slice none 0 0) ?_ | with_reducible refine bx_set2 (z0 := .int .i64 0) (z1 := .slice none 0 0) ?_ | with_reducible refine bx_set4 (z0 := .int .i64 0) (z1 := .slice none 0 0) (z2 := .int .i64 0) (z3 := .slice none 0 0) ?_ | (with_reducible refine bx_ot ?_ ?_; (focus (first | with_reducible assumption | with_reducible exact Nat.le_refl _ | (simp; done) | omega | (simp <;> omega)))) | with_reducible refine bx_al ?_ | with_reducible refine bx_dr ?_)); done)); have y4_1_0c0 := y4_1_0.cell 0 (v := .int .i64 0) rfl; have y4_1_0f0 := y4_1_0.free 0; have y4_1_0c1 := y4_1_0.cell 1 (v := .slice none 0 0) rfl; have y4_1_0f1 := y4_1_0.free 1; have y4_1_0l := y4_1_0.lt; have y4_1_0n := Nat.ne_of_lt y4_1_0l; have y4_1_0m := Nat.ne_of_gt y4_1_0l; have y4_1_0h := Lib.hid y4_1_0; clear y4_1_0)); (try (refine have_then (T := Bx w4 (w3.heap.size) #[.int .i64 0, .slice none 0 0] 41) ?_ (fun y4_2_0 => ?_); (focus ((repeat (first | (with_reducible refine bx_new ?_; (focus (first | with_reducible rfl | (simp; done)))) | with_reducible refine bx_tr ?_ C4.out | with_reducible refine bx_tr ?_ C3.out | with_reducible refine bx_tr ?_ C2.out | with_reducible refine bx_set2 (z0 := .slice none 0 0) (z1 := .slice none 0 0) ?_ | with_reducible refine bx_set2 (z0 := .int .i64 0) (z1 := .slice none 0 0) ?_ | with_reducible refine bx_set4 (z0 := .int .i64 0) (z1 := .slice none 0 0) (z2 := .int .i64 0) (z3 := .slice none 0 0) ?_ | (with_reducible refine bx_ot ?_ ?_; (focus (first | with_reducible assumption | with_reducible exact Nat.le_refl _ | (simp; done) | omega | (simp <;> omega)))) | with_reducible refine bx_al ?_ | with_reducible refine bx_dr ?_)); done)); have y4_2_0c0 := y4_2_0.cell 0 (v := .int .i64 0) rfl; have y4_2_0f0 := y4_2_0.free 0; have y4_2_0c1 := y4_2_0.cell 1 (v := .slice none 0 0) rfl; have y4_2_0f1 := y4_2_0.free 1; have y4_2_0l := y4_2_0.lt; have y4_2_0n := Nat.ne_of_lt y4_2_0l; have y4_2_0m := Nat.ne_of_gt y4_2_0l; have y4_2_0h := Lib.hid y4_2_0; clear y4_2_0)))
          | (go_at_call 31; clear M1; have M2 := trivial; refine (ref6_Value bx b_ cx cy dx dy (show P3 bx b_ cx cy dx dy from ⟨hp.c, hp.d, hp.e, hp.f, hp.g, hp.h⟩) _).mono ?_; rintro e w3 ⟨⟨P2, p2, g2, rfl, d2, M2⟩, B⟩; have C3 := Lib.hid B; clear B; have hs3 : w1.heap.size ≤ w3.heap.size := Below.size (B := w1.heap.size) (by (repeat (first | (with_reducible refine below_st ?_ ?_; (focus (first | with_reducible assumption | with_reducible exact Nat.le_refl _ | (simp; done) | omega | (simp <;> omega)))) | with_reducible refine below_tr ?_ C3.out | with_reducible refine below_tr ?_ C2.out | with_reducible refine below_al ?_ | with_reducible exact below_rf | with_reducible refine below_dr ?_))); have GL_ := Lib.hid (fwd_nm (w' := w3) GL.out (by (repeat (first | with_reducible exact below_rf | with_reducible refine below_tr ?_ C3.out | with_reducible refine below_al ?_ | with_reducible refine below_dr ?_)))); clear GL; have GL := Lib.hid GL_.out; clear GL_; have GD := Lib.hid M2; clear M2; (try (refine have_then (T := Bx w3 (w1.heap.size) #[.int .i64 0, .slice none 0 0] 41) ?_ (fun y3_0_0 => ?_); (focus ((repeat (first | (with_reducible refine bx_new ?_; (focus (first | with_reducible rfl | (simp; done)))) | with_reducible refine bx_tr ?_ C3.out | with_reducible refine bx_tr ?_ C2.out | with_reducible refine bx_set2 (z0 := .slice none 0 0) (z1 := .slice none 0 0) ?_ | with_reducible refine bx_set2 (z0 := .int .i64 0) (z1 := .slice none 0 0) ?_ | with_reducible refine bx_set4 (z0 := .int .i64 0) (z1 := .slice none 0 0) (z2 := .int .i64 0) (z3 := .slice none 0 0) ?_ | (with_reducible refine bx_ot ?_ ?_; (focus (first | with_reducible assumption | with_reducible exact Nat.le_refl _ | (simp; done) | omega | (simp <;> omega)))) | with_reducible refine bx_al ?_ | with_reducible refine bx_dr ?_)); done)); have y3_0_0c0 := y3_0_0.cell 0 (v := .int .i64 0) rfl; have y3_0_0f0 := y3_0_0.free 0; have y3_0_0c1 := y3_0_0.cell 1 (v := .slice none 0 0) rfl; have y3_0_0f1 := y3_0_0.free 1; have y3_0_0l := y3_0_0.lt; have y3_0_0n := Nat.ne_of_lt y3_0_0l; have y3_0_0m := Nat.ne_of_gt y3_0_0l; have y3_0_0h := Lib.hid y3_0_0; clear y3_0_0)); (try (refine have_then (T := Bx w3 (w2.heap.size) #[.int .i64 0, .slice none 0 0] 41) ?_ (fun y3_1_0 => ?_); (focus ((repeat (first | (with_reducible refine bx_new ?_; (focus (first | with_reducible rfl | (simp; done)))) | with_reducible refine bx_tr ?_ C3.out | with_reducible refine bx_tr ?_ C2.out | with_reducible refine bx_set2 (z0 := .slice none 0 0) (z1 := .slice none 0 0) ?_ | with_reducible refine bx_set2 (z0 := .int .i64 0) (z1 := .slice none 0 0) ?_ | with_reducible refine bx_set4 (z0 := .int .i64 0) (z1 := .slice none 0 0) (z2 := .int .i64 0) (z3 := .slice none 0 0) ?_ | (with_reducible refine bx_ot ?_ ?_; (focus (first | with_reducible assumption | with_reducible exact Nat.le_refl _ | (simp; done) | omega | (simp <;> omega)))) | with_reducible refine bx_al ?_ | with_reducible refine bx_dr ?_)); done)); have y3_1_0c0 := y3_1_0.cell 0 (v := .int .i64 0) rfl; have y3_1_0f0 := y3_1_0.free 0; have y3_1_0c1 := y3_1_0.cell 1 (v := .slice none 0 0) rfl; have y3_1_0f1 := y3_1_0.free 1; have y3_1_0l := y3_1_0.lt; have y3_1_0n := Nat.ne_of_lt y3_1_0l; have y3_1_0m := Nat.ne_of_gt y3_1_0l; have y3_1_0h := Lib.hid y3_1_0; clear y3_1_0)))
          | (go_at_call 33; clear M0; have M1 := trivial; refine (ref7_lift ax ay hp.a hp.b _).mono ?_; rintro e w2 ⟨⟨P1, p1, g1, rfl, d1, M1⟩, B⟩; have C2 := Lib.hid B; clear B; have hs2 : w1.heap.size ≤ w2.heap.size := Below.size (B := w1.heap.size) (by (repeat (first | (with_reducible refine below_st ?_ ?_; (focus (first | with_reducible assumption | with_reducible exact Nat.le_refl _ | (simp; done) | omega | (simp <;> omega)))) | with_reducible refine below_tr ?_ C2.out | with_reducible refine below_al ?_ | with_reducible exact below_rf | with_reducible refine below_dr ?_))); have GL := Lib.hid M1; clear M1; (try (refine have_then (T := Bx w2 (w1.heap.size) #[.int .i64 0, .slice none 0 0] 41) ?_ (fun y2_0_0 => ?_); (focus ((repeat (first | (with_reducible refine bx_new ?_; (focus (first | with_reducible rfl | (simp; done)))) | with_reducible refine bx_tr ?_ C2.out | with_reducible refine bx_set2 (z0 := .slice none 0 0) (z1 := .slice none 0 0) ?_ | with_reducible refine bx_set2 (z0 := .int .i64 0) (z1 := .slice none 0 0) ?_ | with_reducible refine bx_set4 (z0 := .int .i64 0) (z1 := .slice none 0 0) (z2 := .int .i64 0) (z3 := .slice none 0 0) ?_ | (with_reducible refine bx_ot ?_ ?_; (focus (first | with_reducible assumption | with_reducible exact Nat.le_refl _ | (simp; done) | omega | (simp <;> omega)))) | with_reducible refine bx_al ?_ | with_reducible refine bx_dr ?_)); done)); have y2_0_0c0 := y2_0_0.cell 0 (v := .int .i64 0) rfl; have y2_0_0f0 := y2_0_0.free 0; have y2_0_0c1 := y2_0_0.cell 1 (v := .slice none 0 0) rfl; have y2_0_0f1 := y2_0_0.free 1; have y2_0_0l := y2_0_0.lt; have y2_0_0n := Nat.ne_of_lt y2_0_0l; have y2_0_0m := Nat.ne_of_gt y2_0_0l; have y2_0_0h := Lib.hid y2_0_0; clear y2_0_0))))
    all_goals (go_wp2_with fail; go_meet; exact ⟨_, P3, p3, g3, rfl, (by first | with_reducible exact Nat.le_refl _ | with_reducible assumption | omega), by (repeat (first | with_reducible exact y4_0_0h.out | with_reducible exact y4_1_0h.out | with_reducible exact y4_2_0h.out | (with_reducible refine bx_set2 (z0 := .int .i64 0) (z1 := .slice none 0 0) ?_) | (with_reducible refine bx_new ?_; (focus (first | with_reducible rfl | (simp; done)))) | with_reducible refine bx_al ?_ | (with_reducible refine bx_ot ?_ ?_; (focus (first | with_reducible assumption | (simp; done) | omega | (simp <;> omega)))) | with_reducible refine bx_dr ?_)), by omega, by (repeat (first | with_reducible exact GM.out | (with_reducible refine nm_set2 (t := 41) (z0 := .int .i64 0) (z1 := .slice none 0 0) (by decide) ?_ ?_; (focus ((repeat (first | with_reducible exact y4_0_0h.out | with_reducible exact y4_1_0h.out | with_reducible exact y4_2_0h.out | (with_reducible refine bx_set2 (z0 := .int .i64 0) (z1 := .slice none 0 0) ?_) | (with_reducible refine bx_new ?_; (focus (first | with_reducible rfl | (simp; done)))) | with_reducible refine bx_al ?_ | (with_reducible refine bx_ot ?_ ?_; (focus (first | with_reducible assumption | (simp; done) | omega | (simp <;> omega)))) | with_reducible refine bx_dr ?_)); done))) | with_reducible refine nm_al ?_ | with_reducible refine nm_dr ?_)), by (repeat (first | (with_reducible refine below_st ?_ ?_; (focus (first | with_reducible assumption | with_reducible exact Nat.le_refl _ | (simp; done) | omega | (simp <;> omega)))) | with_reducible refine below_tr ?_ C4.out | with_reducible refine below_tr ?_ C3.out | with_reducible refine below_tr ?_ C2.out | with_reducible refine below_al ?_ | with_reducible exact below_rf | with_reducible refine below_dr ?_))⟩)
  case rest =>
    clear QF M0
    obtain ⟨bp, Zp, zp, yp, rfl, bgep, H, zkp, Np, HCB⟩ := hcut
    have FP_5 := Lib.hid (FP_1.out.below HCB (Nat.le_refl _)); clear FP_1
    have FQ_5 := Lib.hid (FQ_1.out.below HCB (Nat.le_refl _)); clear FQ_1
    have FT_5 := Lib.hid (FT_1.out.below HCB (Nat.le_refl _)); clear FT_1
    have FV_5 := Lib.hid (FV_1.out.below HCB (Nat.le_refl _)); clear FV_1
    have FR_5 := Lib.hid (FR_1.out.below HCB (Nat.le_refl _)); clear FR_1
    have HB5 := Lib.hid (HB1.out.trans (HCB.mono HB1.out.size)); clear HCB HB1
    have FBp := Lib.hid H; have FNp := Lib.hid Np; clear H Np
    have rnp : w.heap.size + 1 + 1 + 1 + 1 < bp := Nat.lt_of_lt_of_le rl0 bgep; clear bgep
    have rlp := FR_5.out.lt
    go_upto_region 2 with (fail)
    have M0 := trivial
    have QF := Lib.hid (show ∀ w', Below wc.heap.size wc w' → w'.cell? ⟨w.heap.size, 0, none⟩ = some (.int .i64 ax) ∧ w'.cell? ⟨w.heap.size, 1, none⟩ = some (.int .i64 ay) ∧ w'.cell? ⟨w.heap.size + 1, 0, none⟩ = some (.int .i64 bx) ∧ w'.cell? ⟨w.heap.size + 1, 1, none⟩ = some (.int .i64 b_) ∧ w'.cell? ⟨w.heap.size + 1 + 1, 0, none⟩ = some (.int .i64 cx) ∧ w'.cell? ⟨w.heap.size + 1 + 1, 1, none⟩ = some (.int .i64 cy) ∧ w'.cell? ⟨w.heap.size + 1 + 1 + 1, 0, none⟩ = some (.int .i64 dx) ∧ w'.cell? ⟨w.heap.size + 1 + 1 + 1, 1, none⟩ = some (.int .i64 dy) from fun w' hb => ⟨(FP_5.out.below hb (Nat.le_refl _)).cell 0 (v := .int .i64 ax) rfl, (FP_5.out.below hb (Nat.le_refl _)).cell 1 (v := .int .i64 ay) rfl, (FQ_5.out.below hb (Nat.le_refl _)).cell 0 (v := .int .i64 bx) rfl, (FQ_5.out.below hb (Nat.le_refl _)).cell 1 (v := .int .i64 b_) rfl, (FT_5.out.below hb (Nat.le_refl _)).cell 0 (v := .int .i64 cx) rfl, (FT_5.out.below hb (Nat.le_refl _)).cell 1 (v := .int .i64 cy) rfl, (FV_5.out.below hb (Nat.le_refl _)).cell 0 (v := .int .i64 dx) rfl, (FV_5.out.below hb (Nat.le_refl _)).cell 1 (v := .int .i64 dy) rfl⟩)
    go_cut [10] (fun s10 wx => CutN wc ((bx * bx + b_ * b_) * det ax ay cx cy dx dy) 20 s10 wx)
    case first =>
      go_region_held3 (fun w' => w'.cell? ⟨w.heap.size, 0, none⟩ = some (.int .i64 ax) ∧ w'.cell? ⟨w.heap.size, 1, none⟩ = some (.int .i64 ay) ∧ w'.cell? ⟨w.heap.size + 1, 0, none⟩ = some (.int .i64 bx) ∧ w'.cell? ⟨w.heap.size + 1, 1, none⟩ = some (.int .i64 b_) ∧ w'.cell? ⟨w.heap.size + 1 + 1, 0, none⟩ = some (.int .i64 cx) ∧ w'.cell? ⟨w.heap.size + 1 + 1, 1, none⟩ = some (.int .i64 cy) ∧ w'.cell? ⟨w.heap.size + 1 + 1 + 1, 0, none⟩ = some (.int .i64 dx) ∧ w'.cell? ⟨w.heap.size + 1 + 1 + 1, 1, none⟩ = some (.int .i64 dy)) (first | (with_reducible refine QF.out _ ?_; (repeat (first | (with_reducible refine below_st ?_ ?_; (focus (first | with_reducible assumption | with_reducible exact Nat.le_refl _ | (simp; done) | omega | (simp <;> omega)))) | with_reducible refine below_tr ?_ C8.out | with_reducible refine below_tr ?_ C7.out | with_reducible refine below_tr ?_ C6.out | with_reducible refine below_al ?_ | with_reducible exact below_rf | with_reducible refine below_dr ?_)); done) | (with_reducible refine QF.out _ ?_; (repeat (first | (with_reducible refine below_st ?_ ?_; (focus (first | with_reducible assumption | with_reducible exact Nat.le_refl _ | (simp; done) | omega | (simp <;> omega)))) | with_reducible refine below_tr ?_ C7.out | with_reducible refine below_tr ?_ C6.out | with_reducible refine below_al ?_ | with_reducible exact below_rf | with_reducible refine below_dr ?_)); done) | (with_reducible refine QF.out _ ?_; (repeat (first | (with_reducible refine below_st ?_ ?_; (focus (first | with_reducible assumption | with_reducible exact Nat.le_refl _ | (simp; done) | omega | (simp <;> omega)))) | with_reducible refine below_tr ?_ C6.out | with_reducible refine below_al ?_ | with_reducible exact below_rf | with_reducible refine below_dr ?_)); done) | (with_reducible refine QF.out _ ?_; (repeat (first | (with_reducible refine below_st ?_ ?_; (focus (first | with_reducible assumption | with_reducible exact Nat.le_refl _ | (simp; done) | omega | (simp <;> omega)))) | with_reducible refine below_al ?_ | with_reducible exact below_rf | with_reducible refine below_dr ?_)); done)) (first
              | (go_at_call 32; clear M2; have M3 := trivial; refine (ref3_Mul P1 P2 p1 g1 p2 g2 _ _ _ (fwd_nm GL.out (by (repeat (first | with_reducible exact below_rf | with_reducible refine below_al ?_ | with_reducible refine below_dr ?_)))) (fwd_nm GD.out (by (repeat (first | with_reducible exact below_rf | with_reducible refine below_al ?_ | with_reducible refine below_dr ?_)))) (by omega) (by omega)).mono ?_; rintro e w8 ⟨⟨P3, p3, g3, rfl, d3, M3⟩, B⟩; have C8 := Lib.hid B; clear B; have hs8 : wc.heap.size ≤ w8.heap.size := Below.size (B := wc.heap.size) (by (repeat (first | (with_reducible refine below_st ?_ ?_; (focus (first | with_reducible assumption | with_reducible exact Nat.le_refl _ | (simp; done) | omega | (simp <;> omega)))) | with_reducible refine below_tr ?_ C8.out | with_reducible refine below_tr ?_ C7.out | with_reducible refine below_tr ?_ C6.out | with_reducible refine below_al ?_ | with_reducible exact below_rf | with_reducible refine below_dr ?_))); have GL_ := Lib.hid (fwd_nm (w' := w8) GL.out (by (repeat (first | with_reducible exact below_rf | with_reducible refine below_tr ?_ C8.out | with_reducible refine below_al ?_ | with_reducible refine below_dr ?_)))); clear GL; have GL := Lib.hid GL_.out; clear GL_; have GD_ := Lib.hid (fwd_nm (w' := w8) GD.out (by (repeat (first | with_reducible exact below_rf | with_reducible refine below_tr ?_ C8.out | with_reducible refine below_al ?_ | with_reducible refine below_dr ?_)))); clear GD; have GD := Lib.hid GD_.out; clear GD_; have GM := Lib.hid M3; clear M3; (try (refine have_then (T := Bx w8 (wc.heap.size) #[.int .i64 0, .slice none 0 0] 41) ?_ (fun y8_0_0 => ?_); (focus ((repeat (first | (with_reducible refine bx_new ?_; (focus (first | with_reducible rfl | (simp; done)))) | with_reducible refine bx_tr ?_ C8.out | with_reducible refine bx_tr ?_ C7.out | with_reducible refine bx_tr ?_ C6.out | with_reducible refine bx_set2 (z0 := .slice none 0 0) (z1 := .slice none 0 0) ?_ | with_reducible refine bx_set2 (z0 := .int .i64 0) (z1 := .slice none 0 0) ?_ | with_reducible refine bx_set4 (z0 := .int .i64 0) (z1 := .slice none 0 0) (z2 := .int .i64 0) (z3 := .slice none 0 0) ?_ | (with_reducible refine bx_ot ?_ ?_; (focus (first | with_reducible assumption | with_reducible exact Nat.le_refl _ | (simp; done) | omega | (simp <;> omega)))) | with_reducible refine bx_al ?_ | with_reducible refine bx_dr ?_)); done)); have y8_0_0c0 := y8_0_0.cell 0 (v := .int .i64 0) rfl; have y8_0_0f0 := y8_0_0.free 0; have y8_0_0c1 := y8_0_0.cell 1 (v := .slice none 0 0) rfl; have y8_0_0f1 := y8_0_0.free 1; have y8_0_0l := y8_0_0.lt; have y8_0_0n := Nat.ne_of_lt y8_0_0l; have y8_0_0m := Nat.ne_of_gt y8_0_0l; have y8_0_0h := Lib.hid y8_0_0; clear y8_0_0)); (try (refine have_then (T := Bx w8 (w6.heap.size) #[.int .i64 0, .slice none 0 0] 41) ?_ (fun y8_1_0 => ?_); (focus ((repeat (first | (with_reducible refine bx_new ?_; (focus (first | with_reducible rfl | (simp; done)))) | with_reducible refine bx_tr ?_ C8.out | with_reducible refine bx_tr ?_ C7.out | with_reducible refine bx_tr ?_ C6.out | with_reducible refine bx_set2 (z0 := .slice none 0 0) (z1 := .slice none 0 0) ?_ | with_reducible refine bx_set2 (z0 := .int .i64 0) (z1 := .slice none 0 0) ?_ | with_reducible refine bx_set4 (z0 := .int .i64 0) (z1 := .slice none 0 0) (z2 := .int .i64 0) (z3 := .slice none 0 0) ?_ | (with_reducible refine bx_ot ?_ ?_; (focus (first | with_reducible assumption | with_reducible exact Nat.le_refl _ | (simp; done) | omega | (simp <;> omega)))) | with_reducible refine bx_al ?_ | with_reducible refine bx_dr ?_)); done)); have y8_1_0c0 := y8_1_0.cell 0 (v := .int .i64 0) rfl; have y8_1_0f0 := y8_1_0.free 0; have y8_1_0c1 := y8_1_0.cell 1 (v := .slice none 0 0) rfl; have y8_1_0f1 := y8_1_0.free 1; have y8_1_0l := y8_1_0.lt; have y8_1_0n := Nat.ne_of_lt y8_1_0l; have y8_1_0m := Nat.ne_of_gt y8_1_0l; have y8_1_0h := Lib.hid y8_1_0; clear y8_1_0)); (try (refine have_then (T := Bx w8 (w7.heap.size) #[.int .i64 0, .slice none 0 0] 41) ?_ (fun y8_2_0 => ?_); (focus ((repeat (first | (with_reducible refine bx_new ?_; (focus (first | with_reducible rfl | (simp; done)))) | with_reducible refine bx_tr ?_ C8.out | with_reducible refine bx_tr ?_ C7.out | with_reducible refine bx_tr ?_ C6.out | with_reducible refine bx_set2 (z0 := .slice none 0 0) (z1 := .slice none 0 0) ?_ | with_reducible refine bx_set2 (z0 := .int .i64 0) (z1 := .slice none 0 0) ?_ | with_reducible refine bx_set4 (z0 := .int .i64 0) (z1 := .slice none 0 0) (z2 := .int .i64 0) (z3 := .slice none 0 0) ?_ | (with_reducible refine bx_ot ?_ ?_; (focus (first | with_reducible assumption | with_reducible exact Nat.le_refl _ | (simp; done) | omega | (simp <;> omega)))) | with_reducible refine bx_al ?_ | with_reducible refine bx_dr ?_)); done)); have y8_2_0c0 := y8_2_0.cell 0 (v := .int .i64 0) rfl; have y8_2_0f0 := y8_2_0.free 0; have y8_2_0c1 := y8_2_0.cell 1 (v := .slice none 0 0) rfl; have y8_2_0f1 := y8_2_0.free 1; have y8_2_0l := y8_2_0.lt; have y8_2_0n := Nat.ne_of_lt y8_2_0l; have y8_2_0m := Nat.ne_of_gt y8_2_0l; have y8_2_0h := Lib.hid y8_2_0; clear y8_2_0)))
              | (go_at_call 31; clear M1; have M2 := trivial; refine (ref6_Value ax ay cx cy dx dy (show P3 ax ay cx cy dx dy from ⟨hp.a, hp.b, hp.e, hp.f, hp.g, hp.h⟩) _).mono ?_; rintro e w7 ⟨⟨P2, p2, g2, rfl, d2, M2⟩, B⟩; have C7 := Lib.hid B; clear B; have hs7 : wc.heap.size ≤ w7.heap.size := Below.size (B := wc.heap.size) (by (repeat (first | (with_reducible refine below_st ?_ ?_; (focus (first | with_reducible assumption | with_reducible exact Nat.le_refl _ | (simp; done) | omega | (simp <;> omega)))) | with_reducible refine below_tr ?_ C7.out | with_reducible refine below_tr ?_ C6.out | with_reducible refine below_al ?_ | with_reducible exact below_rf | with_reducible refine below_dr ?_))); have GL_ := Lib.hid (fwd_nm (w' := w7) GL.out (by (repeat (first | with_reducible exact below_rf | with_reducible refine below_tr ?_ C7.out | with_reducible refine below_al ?_ | with_reducible refine below_dr ?_)))); clear GL; have GL := Lib.hid GL_.out; clear GL_; have GD := Lib.hid M2; clear M2; (try (refine have_then (T := Bx w7 (wc.heap.size) #[.int .i64 0, .slice none 0 0] 41) ?_ (fun y7_0_0 => ?_); (focus ((repeat (first | (with_reducible refine bx_new ?_; (focus (first | with_reducible rfl | (simp; done)))) | with_reducible refine bx_tr ?_ C7.out | with_reducible refine bx_tr ?_ C6.out | with_reducible refine bx_set2 (z0 := .slice none 0 0) (z1 := .slice none 0 0) ?_ | with_reducible refine bx_set2 (z0 := .int .i64 0) (z1 := .slice none 0 0) ?_ | with_reducible refine bx_set4 (z0 := .int .i64 0) (z1 := .slice none 0 0) (z2 := .int .i64 0) (z3 := .slice none 0 0) ?_ | (with_reducible refine bx_ot ?_ ?_; (focus (first | with_reducible assumption | with_reducible exact Nat.le_refl _ | (simp; done) | omega | (simp <;> omega)))) | with_reducible refine bx_al ?_ | with_reducible refine bx_dr ?_)); done)); have y7_0_0c0 := y7_0_0.cell 0 (v := .int .i64 0) rfl; have y7_0_0f0 := y7_0_0.free 0; have y7_0_0c1 := y7_0_0.cell 1 (v := .slice none 0 0) rfl; have y7_0_0f1 := y7_0_0.free 1; have y7_0_0l := y7_0_0.lt; have y7_0_0n := Nat.ne_of_lt y7_0_0l; have y7_0_0m := Nat.ne_of_gt y7_0_0l; have y7_0_0h := Lib.hid y7_0_0; clear y7_0_0)); (try (refine have_then (T := Bx w7 (w6.heap.size) #[.int .i64 0, .slice none 0 0] 41) ?_ (fun y7_1_0 => ?_); (focus ((repeat (first | (with_reducible refine bx_new ?_; (focus (first | with_reducible rfl | (simp; done)))) | with_reducible refine bx_tr ?_ C7.out | with_reducible refine bx_tr ?_ C6.out | with_reducible refine bx_set2 (z0 := .slice none 0 0) (z1 := .slice none 0 0) ?_ | with_reducible refine bx_set2 (z0 := .int .i64 0) (z1 := .slice none 0 0) ?_ | with_reducible refine bx_set4 (z0 := .int .i64 0) (z1 := .slice none 0 0) (z2 := .int .i64 0) (z3 := .slice none 0 0) ?_ | (with_reducible refine bx_ot ?_ ?_; (focus (first | with_reducible assumption | with_reducible exact Nat.le_refl _ | (simp; done) | omega | (simp <;> omega)))) | with_reducible refine bx_al ?_ | with_reducible refine bx_dr ?_)); done)); have y7_1_0c0 := y7_1_0.cell 0 (v := .int .i64 0) rfl; have y7_1_0f0 := y7_1_0.free 0; have y7_1_0c1 := y7_1_0.cell 1 (v := .slice none 0 0) rfl; have y7_1_0f1 := y7_1_0.free 1; have y7_1_0l := y7_1_0.lt; have y7_1_0n := Nat.ne_of_lt y7_1_0l; have y7_1_0m := Nat.ne_of_gt y7_1_0l; have y7_1_0h := Lib.hid y7_1_0; clear y7_1_0)))
              | (go_at_call 33; clear M0; have M1 := trivial; refine (ref7_lift bx b_ hp.c hp.d _).mono ?_; rintro e w6 ⟨⟨P1, p1, g1, rfl, d1, M1⟩, B⟩; have C6 := Lib.hid B; clear B; have hs6 : wc.heap.size ≤ w6.heap.size := Below.size (B := wc.heap.size) (by (repeat (first | (with_reducible refine below_st ?_ ?_; (focus (first | with_reducible assumption | with_reducible exact Nat.le_refl _ | (simp; done) | omega | (simp <;> omega)))) | with_reducible refine below_tr ?_ C6.out | with_reducible refine below_al ?_ | with_reducible exact below_rf | with_reducible refine below_dr ?_))); have GL := Lib.hid M1; clear M1; (try (refine have_then (T := Bx w6 (wc.heap.size) #[.int .i64 0, .slice none 0 0] 41) ?_ (fun y6_0_0 => ?_); (focus ((repeat (first | (with_reducible refine bx_new ?_; (focus (first | with_reducible rfl | (simp; done)))) | with_reducible refine bx_tr ?_ C6.out | with_reducible refine bx_set2 (z0 := .slice none 0 0) (z1 := .slice none 0 0) ?_ | with_reducible refine bx_set2 (z0 := .int .i64 0) (z1 := .slice none 0 0) ?_ | with_reducible refine bx_set4 (z0 := .int .i64 0) (z1 := .slice none 0 0) (z2 := .int .i64 0) (z3 := .slice none 0 0) ?_ | (with_reducible refine bx_ot ?_ ?_; (focus (first | with_reducible assumption | with_reducible exact Nat.le_refl _ | (simp; done) | omega | (simp <;> omega)))) | with_reducible refine bx_al ?_ | with_reducible refine bx_dr ?_)); done)); have y6_0_0c0 := y6_0_0.cell 0 (v := .int .i64 0) rfl; have y6_0_0f0 := y6_0_0.free 0; have y6_0_0c1 := y6_0_0.cell 1 (v := .slice none 0 0) rfl; have y6_0_0f1 := y6_0_0.free 1; have y6_0_0l := y6_0_0.lt; have y6_0_0n := Nat.ne_of_lt y6_0_0l; have y6_0_0m := Nat.ne_of_gt y6_0_0l; have y6_0_0h := Lib.hid y6_0_0; clear y6_0_0))))
      all_goals (go_wp2_with fail; go_meet; exact ⟨_, P3, p3, g3, rfl, (by first | with_reducible exact Nat.le_refl _ | with_reducible assumption | omega), by (repeat (first | with_reducible exact y8_0_0h.out | with_reducible exact y8_1_0h.out | with_reducible exact y8_2_0h.out | (with_reducible refine bx_set2 (z0 := .int .i64 0) (z1 := .slice none 0 0) ?_) | (with_reducible refine bx_new ?_; (focus (first | with_reducible rfl | (simp; done)))) | with_reducible refine bx_al ?_ | (with_reducible refine bx_ot ?_ ?_; (focus (first | with_reducible assumption | (simp; done) | omega | (simp <;> omega)))) | with_reducible refine bx_dr ?_)), by omega, by (repeat (first | with_reducible exact GM.out | (with_reducible refine nm_set2 (t := 41) (z0 := .int .i64 0) (z1 := .slice none 0 0) (by decide) ?_ ?_; (focus ((repeat (first | with_reducible exact y8_0_0h.out | with_reducible exact y8_1_0h.out | with_reducible exact y8_2_0h.out | (with_reducible refine bx_set2 (z0 := .int .i64 0) (z1 := .slice none 0 0) ?_) | (with_reducible refine bx_new ?_; (focus (first | with_reducible rfl | (simp; done)))) | with_reducible refine bx_al ?_ | (with_reducible refine bx_ot ?_ ?_; (focus (first | with_reducible assumption | (simp; done) | omega | (simp <;> omega)))) | with_reducible refine bx_dr ?_)); done))) | with_reducible refine nm_al ?_ | with_reducible refine nm_dr ?_)), by (repeat (first | (with_reducible refine below_st ?_ ?_; (focus (first | with_reducible assumption | with_reducible exact Nat.le_refl _ | (simp; done) | omega | (simp <;> omega)))) | with_reducible refine below_tr ?_ C8.out | with_reducible refine below_tr ?_ C7.out | with_reducible refine below_tr ?_ C6.out | with_reducible refine below_al ?_ | with_reducible exact below_rf | with_reducible refine below_dr ?_))⟩)
    case rest =>
      clear QF M0
      obtain ⟨bq, Zq, zq, yq, rfl, bgeq, H, zkq, Nq, HCB⟩ := hcut
      have FP_9 := Lib.hid (FP_5.out.below HCB (Nat.le_refl _)); clear FP_5
      have FQ_9 := Lib.hid (FQ_5.out.below HCB (Nat.le_refl _)); clear FQ_5
      have FT_9 := Lib.hid (FT_5.out.below HCB (Nat.le_refl _)); clear FT_5
      have FV_9 := Lib.hid (FV_5.out.below HCB (Nat.le_refl _)); clear FV_5
      have FR_9 := Lib.hid (FR_5.out.below HCB (Nat.le_refl _)); clear FR_5
      have FBp_9 := Lib.hid (FBp.out.below HCB (Nat.le_refl _)); clear FBp
      have FNp_9 := Lib.hid (FNp.out.below HCB (Nat.le_refl _)); clear FNp
      have HB9 := Lib.hid (HB5.out.trans (HCB.mono HB5.out.size)); clear HCB HB5
      have FBq := Lib.hid H; have FNq := Lib.hid Nq; clear H Nq
      have rnq : w.heap.size + 1 + 1 + 1 + 1 < bq := Nat.lt_of_lt_of_le rlp bgeq; clear bgeq
      have rlq := FR_9.out.lt
      go_upto_region 3 with (fail)
      have M0 := trivial
      have QF := Lib.hid (show ∀ w', Below wc.heap.size wc w' → w'.cell? ⟨w.heap.size, 0, none⟩ = some (.int .i64 ax) ∧ w'.cell? ⟨w.heap.size, 1, none⟩ = some (.int .i64 ay) ∧ w'.cell? ⟨w.heap.size + 1, 0, none⟩ = some (.int .i64 bx) ∧ w'.cell? ⟨w.heap.size + 1, 1, none⟩ = some (.int .i64 b_) ∧ w'.cell? ⟨w.heap.size + 1 + 1, 0, none⟩ = some (.int .i64 cx) ∧ w'.cell? ⟨w.heap.size + 1 + 1, 1, none⟩ = some (.int .i64 cy) ∧ w'.cell? ⟨w.heap.size + 1 + 1 + 1, 0, none⟩ = some (.int .i64 dx) ∧ w'.cell? ⟨w.heap.size + 1 + 1 + 1, 1, none⟩ = some (.int .i64 dy) from fun w' hb => ⟨(FP_9.out.below hb (Nat.le_refl _)).cell 0 (v := .int .i64 ax) rfl, (FP_9.out.below hb (Nat.le_refl _)).cell 1 (v := .int .i64 ay) rfl, (FQ_9.out.below hb (Nat.le_refl _)).cell 0 (v := .int .i64 bx) rfl, (FQ_9.out.below hb (Nat.le_refl _)).cell 1 (v := .int .i64 b_) rfl, (FT_9.out.below hb (Nat.le_refl _)).cell 0 (v := .int .i64 cx) rfl, (FT_9.out.below hb (Nat.le_refl _)).cell 1 (v := .int .i64 cy) rfl, (FV_9.out.below hb (Nat.le_refl _)).cell 0 (v := .int .i64 dx) rfl, (FV_9.out.below hb (Nat.le_refl _)).cell 1 (v := .int .i64 dy) rfl⟩)
      go_cut [11] (fun s11 wx => CutN wc ((cx * cx + cy * cy) * det ax ay bx b_ dx dy) 20 s11 wx)
      case first =>
        go_region_held3 (fun w' => w'.cell? ⟨w.heap.size, 0, none⟩ = some (.int .i64 ax) ∧ w'.cell? ⟨w.heap.size, 1, none⟩ = some (.int .i64 ay) ∧ w'.cell? ⟨w.heap.size + 1, 0, none⟩ = some (.int .i64 bx) ∧ w'.cell? ⟨w.heap.size + 1, 1, none⟩ = some (.int .i64 b_) ∧ w'.cell? ⟨w.heap.size + 1 + 1, 0, none⟩ = some (.int .i64 cx) ∧ w'.cell? ⟨w.heap.size + 1 + 1, 1, none⟩ = some (.int .i64 cy) ∧ w'.cell? ⟨w.heap.size + 1 + 1 + 1, 0, none⟩ = some (.int .i64 dx) ∧ w'.cell? ⟨w.heap.size + 1 + 1 + 1, 1, none⟩ = some (.int .i64 dy)) (first | (with_reducible refine QF.out _ ?_; (repeat (first | (with_reducible refine below_st ?_ ?_; (focus (first | with_reducible assumption | with_reducible exact Nat.le_refl _ | (simp; done) | omega | (simp <;> omega)))) | with_reducible refine below_tr ?_ C12.out | with_reducible refine below_tr ?_ C11.out | with_reducible refine below_tr ?_ C10.out | with_reducible refine below_al ?_ | with_reducible exact below_rf | with_reducible refine below_dr ?_)); done) | (with_reducible refine QF.out _ ?_; (repeat (first | (with_reducible refine below_st ?_ ?_; (focus (first | with_reducible assumption | with_reducible exact Nat.le_refl _ | (simp; done) | omega | (simp <;> omega)))) | with_reducible refine below_tr ?_ C11.out | with_reducible refine below_tr ?_ C10.out | with_reducible refine below_al ?_ | with_reducible exact below_rf | with_reducible refine below_dr ?_)); done) | (with_reducible refine QF.out _ ?_; (repeat (first | (with_reducible refine below_st ?_ ?_; (focus (first | with_reducible assumption | with_reducible exact Nat.le_refl _ | (simp; done) | omega | (simp <;> omega)))) | with_reducible refine below_tr ?_ C10.out | with_reducible refine below_al ?_ | with_reducible exact below_rf | with_reducible refine below_dr ?_)); done) | (with_reducible refine QF.out _ ?_; (repeat (first | (with_reducible refine below_st ?_ ?_; (focus (first | with_reducible assumption | with_reducible exact Nat.le_refl _ | (simp; done) | omega | (simp <;> omega)))) | with_reducible refine below_al ?_ | with_reducible exact below_rf | with_reducible refine below_dr ?_)); done)) (first
                  | (go_at_call 32; clear M2; have M3 := trivial; refine (ref3_Mul P1 P2 p1 g1 p2 g2 _ _ _ (fwd_nm GL.out (by (repeat (first | with_reducible exact below_rf | with_reducible refine below_al ?_ | with_reducible refine below_dr ?_)))) (fwd_nm GD.out (by (repeat (first | with_reducible exact below_rf | with_reducible refine below_al ?_ | with_reducible refine below_dr ?_)))) (by omega) (by omega)).mono ?_; rintro e w12 ⟨⟨P3, p3, g3, rfl, d3, M3⟩, B⟩; have C12 := Lib.hid B; clear B; have hs12 : wc.heap.size ≤ w12.heap.size := Below.size (B := wc.heap.size) (by (repeat (first | (with_reducible refine below_st ?_ ?_; (focus (first | with_reducible assumption | with_reducible exact Nat.le_refl _ | (simp; done) | omega | (simp <;> omega)))) | with_reducible refine below_tr ?_ C12.out | with_reducible refine below_tr ?_ C11.out | with_reducible refine below_tr ?_ C10.out | with_reducible refine below_al ?_ | with_reducible exact below_rf | with_reducible refine below_dr ?_))); have GL_ := Lib.hid (fwd_nm (w' := w12) GL.out (by (repeat (first | with_reducible exact below_rf | with_reducible refine below_tr ?_ C12.out | with_reducible refine below_al ?_ | with_reducible refine below_dr ?_)))); clear GL; have GL := Lib.hid GL_.out; clear GL_; have GD_ := Lib.hid (fwd_nm (w' := w12) GD.out (by (repeat (first | with_reducible exact below_rf | with_reducible refine below_tr ?_ C12.out | with_reducible refine below_al ?_ | with_reducible refine below_dr ?_)))); clear GD; have GD := Lib.hid GD_.out; clear GD_; have GM := Lib.hid M3; clear M3; (try (refine have_then (T := Bx w12 (wc.heap.size) #[.int .i64 0, .slice none 0 0] 41) ?_ (fun y12_0_0 => ?_); (focus ((repeat (first | (with_reducible refine bx_new ?_; (focus (first | with_reducible rfl | (simp; done)))) | with_reducible refine bx_tr ?_ C12.out | with_reducible refine bx_tr ?_ C11.out | with_reducible refine bx_tr ?_ C10.out | with_reducible refine bx_set2 (z0 := .slice none 0 0) (z1 := .slice none 0 0) ?_ | with_reducible refine bx_set2 (z0 := .int .i64 0) (z1 := .slice none 0 0) ?_ | with_reducible refine bx_set4 (z0 := .int .i64 0) (z1 := .slice none 0 0) (z2 := .int .i64 0) (z3 := .slice none 0 0) ?_ | (with_reducible refine bx_ot ?_ ?_; (focus (first | with_reducible assumption | with_reducible exact Nat.le_refl _ | (simp; done) | omega | (simp <;> omega)))) | with_reducible refine bx_al ?_ | with_reducible refine bx_dr ?_)); done)); have y12_0_0c0 := y12_0_0.cell 0 (v := .int .i64 0) rfl; have y12_0_0f0 := y12_0_0.free 0; have y12_0_0c1 := y12_0_0.cell 1 (v := .slice none 0 0) rfl; have y12_0_0f1 := y12_0_0.free 1; have y12_0_0l := y12_0_0.lt; have y12_0_0n := Nat.ne_of_lt y12_0_0l; have y12_0_0m := Nat.ne_of_gt y12_0_0l; have y12_0_0h := Lib.hid y12_0_0; clear y12_0_0)); (try (refine have_then (T := Bx w12 (w10.heap.size) #[.int .i64 0, .slice none 0 0] 41) ?_ (fun y12_1_0 => ?_); (focus ((repeat (first | (with_reducible refine bx_new ?_; (focus (first | with_reducible rfl | (simp; done)))) | with_reducible refine bx_tr ?_ C12.out | with_reducible refine bx_tr ?_ C11.out | with_reducible refine bx_tr ?_ C10.out | with_reducible refine bx_set2 (z0 := .slice none 0 0) (z1 := .slice none 0 0) ?_ | with_reducible refine bx_set2 (z0 := .int .i64 0) (z1 := .slice none 0 0) ?_ | with_reducible refine bx_set4 (z0 := .int .i64 0) (z1 := .slice none 0 0) (z2 := .int .i64 0) (z3 := .slice none 0 0) ?_ | (with_reducible refine bx_ot ?_ ?_; (focus (first | with_reducible assumption | with_reducible exact Nat.le_refl _ | (simp; done) | omega | (simp <;> omega)))) | with_reducible refine bx_al ?_ | with_reducible refine bx_dr ?_)); done)); have y12_1_0c0 := y12_1_0.cell 0 (v := .int .i64 0) rfl; have y12_1_0f0 := y12_1_0.free 0; have y12_1_0c1 := y12_1_0.cell 1 (v := .slice none 0 0) rfl; have y12_1_0f1 := y12_1_0.free 1; have y12_1_0l := y12_1_0.lt; have y12_1_0n := Nat.ne_of_lt y12_1_0l; have y12_1_0m := Nat.ne_of_gt y12_1_0l; have y12_1_0h := Lib.hid y12_1_0; clear y12_1_0)); (try (refine have_then (T := Bx w12 (w11.heap.size) #[.int .i64 0, .slice none 0 0] 41) ?_ (fun y12_2_0 => ?_); (focus ((repeat (first | (with_reducible refine bx_new ?_; (focus (first | with_reducible rfl | (simp; done)))) | with_reducible refine bx_tr ?_ C12.out | with_reducible refine bx_tr ?_ C11.out | with_reducible refine bx_tr ?_ C10.out | with_reducible refine bx_set2 (z0 := .slice none 0 0) (z1 := .slice none 0 0) ?_ | with_reducible refine bx_set2 (z0 := .int .i64 0) (z1 := .slice none 0 0) ?_ | with_reducible refine bx_set4 (z0 := .int .i64 0) (z1 := .slice none 0 0) (z2 := .int .i64 0) (z3 := .slice none 0 0) ?_ | (with_reducible refine bx_ot ?_ ?_; (focus (first | with_reducible assumption | with_reducible exact Nat.le_refl _ | (simp; done) | omega | (simp <;> omega)))) | with_reducible refine bx_al ?_ | with_reducible refine bx_dr ?_)); done)); have y12_2_0c0 := y12_2_0.cell 0 (v := .int .i64 0) rfl; have y12_2_0f0 := y12_2_0.free 0; have y12_2_0c1 := y12_2_0.cell 1 (v := .slice none 0 0) rfl; have y12_2_0f1 := y12_2_0.free 1; have y12_2_0l := y12_2_0.lt; have y12_2_0n := Nat.ne_of_lt y12_2_0l; have y12_2_0m := Nat.ne_of_gt y12_2_0l; have y12_2_0h := Lib.hid y12_2_0; clear y12_2_0)))
                  | (go_at_call 31; clear M1; have M2 := trivial; refine (ref6_Value ax ay bx b_ dx dy (show P3 ax ay bx b_ dx dy from ⟨hp.a, hp.b, hp.c, hp.d, hp.g, hp.h⟩) _).mono ?_; rintro e w11 ⟨⟨P2, p2, g2, rfl, d2, M2⟩, B⟩; have C11 := Lib.hid B; clear B; have hs11 : wc.heap.size ≤ w11.heap.size := Below.size (B := wc.heap.size) (by (repeat (first | (with_reducible refine below_st ?_ ?_; (focus (first | with_reducible assumption | with_reducible exact Nat.le_refl _ | (simp; done) | omega | (simp <;> omega)))) | with_reducible refine below_tr ?_ C11.out | with_reducible refine below_tr ?_ C10.out | with_reducible refine below_al ?_ | with_reducible exact below_rf | with_reducible refine below_dr ?_))); have GL_ := Lib.hid (fwd_nm (w' := w11) GL.out (by (repeat (first | with_reducible exact below_rf | with_reducible refine below_tr ?_ C11.out | with_reducible refine below_al ?_ | with_reducible refine below_dr ?_)))); clear GL; have GL := Lib.hid GL_.out; clear GL_; have GD := Lib.hid M2; clear M2; (try (refine have_then (T := Bx w11 (wc.heap.size) #[.int .i64 0, .slice none 0 0] 41) ?_ (fun y11_0_0 => ?_); (focus ((repeat (first | (with_reducible refine bx_new ?_; (focus (first | with_reducible rfl | (simp; done)))) | with_reducible refine bx_tr ?_ C11.out | with_reducible refine bx_tr ?_ C10.out | with_reducible refine bx_set2 (z0 := .slice none 0 0) (z1 := .slice none 0 0) ?_ | with_reducible refine bx_set2 (z0 := .int .i64 0) (z1 := .slice none 0 0) ?_ | with_reducible refine bx_set4 (z0 := .int .i64 0) (z1 := .slice none 0 0) (z2 := .int .i64 0) (z3 := .slice none 0 0) ?_ | (with_reducible refine bx_ot ?_ ?_; (focus (first | with_reducible assumption | with_reducible exact Nat.le_refl _ | (simp; done) | omega | (simp <;> omega)))) | with_reducible refine bx_al ?_ | with_reducible refine bx_dr ?_)); done)); have y11_0_0c0 := y11_0_0.cell 0 (v := .int .i64 0) rfl; have y11_0_0f0 := y11_0_0.free 0; have y11_0_0c1 := y11_0_0.cell 1 (v := .slice none 0 0) rfl; have y11_0_0f1 := y11_0_0.free 1; have y11_0_0l := y11_0_0.lt; have y11_0_0n := Nat.ne_of_lt y11_0_0l; have y11_0_0m := Nat.ne_of_gt y11_0_0l; have y11_0_0h := Lib.hid y11_0_0; clear y11_0_0)); (try (refine have_then (T := Bx w11 (w10.heap.size) #[.int .i64 0, .slice none 0 0] 41) ?_ (fun y11_1_0 => ?_); (focus ((repeat (first | (with_reducible refine bx_new ?_; (focus (first | with_reducible rfl | (simp; done)))) | with_reducible refine bx_tr ?_ C11.out | with_reducible refine bx_tr ?_ C10.out | with_reducible refine bx_set2 (z0 := .slice none 0 0) (z1 := .slice none 0 0) ?_ | with_reducible refine bx_set2 (z0 := .int .i64 0) (z1 := .slice none 0 0) ?_ | with_reducible refine bx_set4 (z0 := .int .i64 0) (z1 := .slice none 0 0) (z2 := .int .i64 0) (z3 := .slice none 0 0) ?_ | (with_reducible refine bx_ot ?_ ?_; (focus (first | with_reducible assumption | with_reducible exact Nat.le_refl _ | (simp; done) | omega | (simp <;> omega)))) | with_reducible refine bx_al ?_ | with_reducible refine bx_dr ?_)); done)); have y11_1_0c0 := y11_1_0.cell 0 (v := .int .i64 0) rfl; have y11_1_0f0 := y11_1_0.free 0; have y11_1_0c1 := y11_1_0.cell 1 (v := .slice none 0 0) rfl; have y11_1_0f1 := y11_1_0.free 1; have y11_1_0l := y11_1_0.lt; have y11_1_0n := Nat.ne_of_lt y11_1_0l; have y11_1_0m := Nat.ne_of_gt y11_1_0l; have y11_1_0h := Lib.hid y11_1_0; clear y11_1_0)))
                  | (go_at_call 33; clear M0; have M1 := trivial; refine (ref7_lift cx cy hp.e hp.f _).mono ?_; rintro e w10 ⟨⟨P1, p1, g1, rfl, d1, M1⟩, B⟩; have C10 := Lib.hid B; clear B; have hs10 : wc.heap.size ≤ w10.heap.size := Below.size (B := wc.heap.size) (by (repeat (first | (with_reducible refine below_st ?_ ?_; (focus (first | with_reducible assumption | with_reducible exact Nat.le_refl _ | (simp; done) | omega | (simp <;> omega)))) | with_reducible refine below_tr ?_ C10.out | with_reducible refine below_al ?_ | with_reducible exact below_rf | with_reducible refine below_dr ?_))); have GL := Lib.hid M1; clear M1; (try (refine have_then (T := Bx w10 (wc.heap.size) #[.int .i64 0, .slice none 0 0] 41) ?_ (fun y10_0_0 => ?_); (focus ((repeat (first | (with_reducible refine bx_new ?_; (focus (first | with_reducible rfl | (simp; done)))) | with_reducible refine bx_tr ?_ C10.out | with_reducible refine bx_set2 (z0 := .slice none 0 0) (z1 := .slice none 0 0) ?_ | with_reducible refine bx_set2 (z0 := .int .i64 0) (z1 := .slice none 0 0) ?_ | with_reducible refine bx_set4 (z0 := .int .i64 0) (z1 := .slice none 0 0) (z2 := .int .i64 0) (z3 := .slice none 0 0) ?_ | (with_reducible refine bx_ot ?_ ?_; (focus (first | with_reducible assumption | with_reducible exact Nat.le_refl _ | (simp; done) | omega | (simp <;> omega)))) | with_reducible refine bx_al ?_ | with_reducible refine bx_dr ?_)); done)); have y10_0_0c0 := y10_0_0.cell 0 (v := .int .i64 0) rfl; have y10_0_0f0 := y10_0_0.free 0; have y10_0_0c1 := y10_0_0.cell 1 (v := .slice none 0 0) rfl; have y10_0_0f1 := y10_0_0.free 1; have y10_0_0l := y10_0_0.lt; have y10_0_0n := Nat.ne_of_lt y10_0_0l; have y10_0_0m := Nat.ne_of_gt y10_0_0l; have y10_0_0h := Lib.hid y10_0_0; clear y10_0_0))))
        all_goals (go_wp2_with fail; go_meet; exact ⟨_, P3, p3, g3, rfl, (by first | with_reducible exact Nat.le_refl _ | with_reducible assumption | omega), by (repeat (first | with_reducible exact y12_0_0h.out | with_reducible exact y12_1_0h.out | with_reducible exact y12_2_0h.out | (with_reducible refine bx_set2 (z0 := .int .i64 0) (z1 := .slice none 0 0) ?_) | (with_reducible refine bx_new ?_; (focus (first | with_reducible rfl | (simp; done)))) | with_reducible refine bx_al ?_ | (with_reducible refine bx_ot ?_ ?_; (focus (first | with_reducible assumption | (simp; done) | omega | (simp <;> omega)))) | with_reducible refine bx_dr ?_)), by omega, by (repeat (first | with_reducible exact GM.out | (with_reducible refine nm_set2 (t := 41) (z0 := .int .i64 0) (z1 := .slice none 0 0) (by decide) ?_ ?_; (focus ((repeat (first | with_reducible exact y12_0_0h.out | with_reducible exact y12_1_0h.out | with_reducible exact y12_2_0h.out | (with_reducible refine bx_set2 (z0 := .int .i64 0) (z1 := .slice none 0 0) ?_) | (with_reducible refine bx_new ?_; (focus (first | with_reducible rfl | (simp; done)))) | with_reducible refine bx_al ?_ | (with_reducible refine bx_ot ?_ ?_; (focus (first | with_reducible assumption | (simp; done) | omega | (simp <;> omega)))) | with_reducible refine bx_dr ?_)); done))) | with_reducible refine nm_al ?_ | with_reducible refine nm_dr ?_)), by (repeat (first | (with_reducible refine below_st ?_ ?_; (focus (first | with_reducible assumption | with_reducible exact Nat.le_refl _ | (simp; done) | omega | (simp <;> omega)))) | with_reducible refine below_tr ?_ C12.out | with_reducible refine below_tr ?_ C11.out | with_reducible refine below_tr ?_ C10.out | with_reducible refine below_al ?_ | with_reducible exact below_rf | with_reducible refine below_dr ?_))⟩)
      case rest =>
        clear QF M0
        obtain ⟨bt, Zt, zt, yt, rfl, bget, H, zkt, Nt, HCB⟩ := hcut
        have FP_13 := Lib.hid (FP_9.out.below HCB (Nat.le_refl _)); clear FP_9
        have FQ_13 := Lib.hid (FQ_9.out.below HCB (Nat.le_refl _)); clear FQ_9
        have FT_13 := Lib.hid (FT_9.out.below HCB (Nat.le_refl _)); clear FT_9
        have FV_13 := Lib.hid (FV_9.out.below HCB (Nat.le_refl _)); clear FV_9
        have FR_13 := Lib.hid (FR_9.out.below HCB (Nat.le_refl _)); clear FR_9
        have FBp_13 := Lib.hid (FBp_9.out.below HCB (Nat.le_refl _)); clear FBp_9
        have FNp_13 := Lib.hid (FNp_9.out.below HCB (Nat.le_refl _)); clear FNp_9
        have FBq_13 := Lib.hid (FBq.out.below HCB (Nat.le_refl _)); clear FBq
        have FNq_13 := Lib.hid (FNq.out.below HCB (Nat.le_refl _)); clear FNq
        have HB13 := Lib.hid (HB9.out.trans (HCB.mono HB9.out.size)); clear HCB HB9
        have FBt := Lib.hid H; have FNt := Lib.hid Nt; clear H Nt
        have rnt : w.heap.size + 1 + 1 + 1 + 1 < bt := Nat.lt_of_lt_of_le rlq bget; clear bget
        have rlt := FR_13.out.lt
        go_upto_region 4 with (fail)
        have M0 := trivial
        have QF := Lib.hid (show ∀ w', Below wc.heap.size wc w' → w'.cell? ⟨w.heap.size, 0, none⟩ = some (.int .i64 ax) ∧ w'.cell? ⟨w.heap.size, 1, none⟩ = some (.int .i64 ay) ∧ w'.cell? ⟨w.heap.size + 1, 0, none⟩ = some (.int .i64 bx) ∧ w'.cell? ⟨w.heap.size + 1, 1, none⟩ = some (.int .i64 b_) ∧ w'.cell? ⟨w.heap.size + 1 + 1, 0, none⟩ = some (.int .i64 cx) ∧ w'.cell? ⟨w.heap.size + 1 + 1, 1, none⟩ = some (.int .i64 cy) ∧ w'.cell? ⟨w.heap.size + 1 + 1 + 1, 0, none⟩ = some (.int .i64 dx) ∧ w'.cell? ⟨w.heap.size + 1 + 1 + 1, 1, none⟩ = some (.int .i64 dy) from fun w' hb => ⟨(FP_13.out.below hb (Nat.le_refl _)).cell 0 (v := .int .i64 ax) rfl, (FP_13.out.below hb (Nat.le_refl _)).cell 1 (v := .int .i64 ay) rfl, (FQ_13.out.below hb (Nat.le_refl _)).cell 0 (v := .int .i64 bx) rfl, (FQ_13.out.below hb (Nat.le_refl _)).cell 1 (v := .int .i64 b_) rfl, (FT_13.out.below hb (Nat.le_refl _)).cell 0 (v := .int .i64 cx) rfl, (FT_13.out.below hb (Nat.le_refl _)).cell 1 (v := .int .i64 cy) rfl, (FV_13.out.below hb (Nat.le_refl _)).cell 0 (v := .int .i64 dx) rfl, (FV_13.out.below hb (Nat.le_refl _)).cell 1 (v := .int .i64 dy) rfl⟩)
        go_cut [12] (fun s12 wx => CutN wc ((dx * dx + dy * dy) * det ax ay bx b_ cx cy) 20 s12 wx)
        case first =>
          go_region_held3 (fun w' => w'.cell? ⟨w.heap.size, 0, none⟩ = some (.int .i64 ax) ∧ w'.cell? ⟨w.heap.size, 1, none⟩ = some (.int .i64 ay) ∧ w'.cell? ⟨w.heap.size + 1, 0, none⟩ = some (.int .i64 bx) ∧ w'.cell? ⟨w.heap.size + 1, 1, none⟩ = some (.int .i64 b_) ∧ w'.cell? ⟨w.heap.size + 1 + 1, 0, none⟩ = some (.int .i64 cx) ∧ w'.cell? ⟨w.heap.size + 1 + 1, 1, none⟩ = some (.int .i64 cy) ∧ w'.cell? ⟨w.heap.size + 1 + 1 + 1, 0, none⟩ = some (.int .i64 dx) ∧ w'.cell? ⟨w.heap.size + 1 + 1 + 1, 1, none⟩ = some (.int .i64 dy)) (first | (with_reducible refine QF.out _ ?_; (repeat (first | (with_reducible refine below_st ?_ ?_; (focus (first | with_reducible assumption | with_reducible exact Nat.le_refl _ | (simp; done) | omega | (simp <;> omega)))) | with_reducible refine below_tr ?_ C16.out | with_reducible refine below_tr ?_ C15.out | with_reducible refine below_tr ?_ C14.out | with_reducible refine below_al ?_ | with_reducible exact below_rf | with_reducible refine below_dr ?_)); done) | (with_reducible refine QF.out _ ?_; (repeat (first | (with_reducible refine below_st ?_ ?_; (focus (first | with_reducible assumption | with_reducible exact Nat.le_refl _ | (simp; done) | omega | (simp <;> omega)))) | with_reducible refine below_tr ?_ C15.out | with_reducible refine below_tr ?_ C14.out | with_reducible refine below_al ?_ | with_reducible exact below_rf | with_reducible refine below_dr ?_)); done) | (with_reducible refine QF.out _ ?_; (repeat (first | (with_reducible refine below_st ?_ ?_; (focus (first | with_reducible assumption | with_reducible exact Nat.le_refl _ | (simp; done) | omega | (simp <;> omega)))) | with_reducible refine below_tr ?_ C14.out | with_reducible refine below_al ?_ | with_reducible exact below_rf | with_reducible refine below_dr ?_)); done) | (with_reducible refine QF.out _ ?_; (repeat (first | (with_reducible refine below_st ?_ ?_; (focus (first | with_reducible assumption | with_reducible exact Nat.le_refl _ | (simp; done) | omega | (simp <;> omega)))) | with_reducible refine below_al ?_ | with_reducible exact below_rf | with_reducible refine below_dr ?_)); done)) (first
                      | (go_at_call 32; clear M2; have M3 := trivial; refine (ref3_Mul P1 P2 p1 g1 p2 g2 _ _ _ (fwd_nm GL.out (by (repeat (first | with_reducible exact below_rf | with_reducible refine below_al ?_ | with_reducible refine below_dr ?_)))) (fwd_nm GD.out (by (repeat (first | with_reducible exact below_rf | with_reducible refine below_al ?_ | with_reducible refine below_dr ?_)))) (by omega) (by omega)).mono ?_; rintro e w16 ⟨⟨P3, p3, g3, rfl, d3, M3⟩, B⟩; have C16 := Lib.hid B; clear B; have hs16 : wc.heap.size ≤ w16.heap.size := Below.size (B := wc.heap.size) (by (repeat (first | (with_reducible refine below_st ?_ ?_; (focus (first | with_reducible assumption | with_reducible exact Nat.le_refl _ | (simp; done) | omega | (simp <;> omega)))) | with_reducible refine below_tr ?_ C16.out | with_reducible refine below_tr ?_ C15.out | with_reducible refine below_tr ?_ C14.out | with_reducible refine below_al ?_ | with_reducible exact below_rf | with_reducible refine below_dr ?_))); have GL_ := Lib.hid (fwd_nm (w' := w16) GL.out (by (repeat (first | with_reducible exact below_rf | with_reducible refine below_tr ?_ C16.out | with_reducible refine below_al ?_ | with_reducible refine below_dr ?_)))); clear GL; have GL := Lib.hid GL_.out; clear GL_; have GD_ := Lib.hid (fwd_nm (w' := w16) GD.out (by (repeat (first | with_reducible exact below_rf | with_reducible refine below_tr ?_ C16.out | with_reducible refine below_al ?_ | with_reducible refine below_dr ?_)))); clear GD; have GD := Lib.hid GD_.out; clear GD_; have GM := Lib.hid M3; clear M3; (try (refine have_then (T := Bx w16 (wc.heap.size) #[.int .i64 0, .slice none 0 0] 41) ?_ (fun y16_0_0 => ?_); (focus ((repeat (first | (with_reducible refine bx_new ?_; (focus (first | with_reducible rfl | (simp; done)))) | with_reducible refine bx_tr ?_ C16.out | with_reducible refine bx_tr ?_ C15.out | with_reducible refine bx_tr ?_ C14.out | with_reducible refine bx_set2 (z0 := .slice none 0 0) (z1 := .slice none 0 0) ?_ | with_reducible refine bx_set2 (z0 := .int .i64 0) (z1 := .slice none 0 0) ?_ | with_reducible refine bx_set4 (z0 := .int .i64 0) (z1 := .slice none 0 0) (z2 := .int .i64 0) (z3 := .slice none 0 0) ?_ | (with_reducible refine bx_ot ?_ ?_; (focus (first | with_reducible assumption | with_reducible exact Nat.le_refl _ | (simp; done) | omega | (simp <;> omega)))) | with_reducible refine bx_al ?_ | with_reducible refine bx_dr ?_)); done)); have y16_0_0c0 := y16_0_0.cell 0 (v := .int .i64 0) rfl; have y16_0_0f0 := y16_0_0.free 0; have y16_0_0c1 := y16_0_0.cell 1 (v := .slice none 0 0) rfl; have y16_0_0f1 := y16_0_0.free 1; have y16_0_0l := y16_0_0.lt; have y16_0_0n := Nat.ne_of_lt y16_0_0l; have y16_0_0m := Nat.ne_of_gt y16_0_0l; have y16_0_0h := Lib.hid y16_0_0; clear y16_0_0)); (try (refine have_then (T := Bx w16 (w14.heap.size) #[.int .i64 0, .slice none 0 0] 41) ?_ (fun y16_1_0 => ?_); (focus ((repeat (first | (with_reducible refine bx_new ?_; (focus (first | with_reducible rfl | (simp; done)))) | with_reducible refine bx_tr ?_ C16.out | with_reducible refine bx_tr ?_ C15.out | with_reducible refine bx_tr ?_ C14.out | with_reducible refine bx_set2 (z0 := .slice none 0 0) (z1 := .slice none 0 0) ?_ | with_reducible refine bx_set2 (z0 := .int .i64 0) (z1 := .slice none 0 0) ?_ | with_reducible refine bx_set4 (z0 := .int .i64 0) (z1 := .slice none 0 0) (z2 := .int .i64 0) (z3 := .slice none 0 0) ?_ | (with_reducible refine bx_ot ?_ ?_; (focus (first | with_reducible assumption | with_reducible exact Nat.le_refl _ | (simp; done) | omega | (simp <;> omega)))) | with_reducible refine bx_al ?_ | with_reducible refine bx_dr ?_)); done)); have y16_1_0c0 := y16_1_0.cell 0 (v := .int .i64 0) rfl; have y16_1_0f0 := y16_1_0.free 0; have y16_1_0c1 := y16_1_0.cell 1 (v := .slice none 0 0) rfl; have y16_1_0f1 := y16_1_0.free 1; have y16_1_0l := y16_1_0.lt; have y16_1_0n := Nat.ne_of_lt y16_1_0l; have y16_1_0m := Nat.ne_of_gt y16_1_0l; have y16_1_0h := Lib.hid y16_1_0; clear y16_1_0)); (try (refine have_then (T := Bx w16 (w15.heap.size) #[.int .i64 0, .slice none 0 0] 41) ?_ (fun y16_2_0 => ?_); (focus ((repeat (first | (with_reducible refine bx_new ?_; (focus (first | with_reducible rfl | (simp; done)))) | with_reducible refine bx_tr ?_ C16.out | with_reducible refine bx_tr ?_ C15.out | with_reducible refine bx_tr ?_ C14.out | with_reducible refine bx_set2 (z0 := .slice none 0 0) (z1 := .slice none 0 0) ?_ | with_reducible refine bx_set2 (z0 := .int .i64 0) (z1 := .slice none 0 0) ?_ | with_reducible refine bx_set4 (z0 := .int .i64 0) (z1 := .slice none 0 0) (z2 := .int .i64 0) (z3 := .slice none 0 0) ?_ | (with_reducible refine bx_ot ?_ ?_; (focus (first | with_reducible assumption | with_reducible exact Nat.le_refl _ | (simp; done) | omega | (simp <;> omega)))) | with_reducible refine bx_al ?_ | with_reducible refine bx_dr ?_)); done)); have y16_2_0c0 := y16_2_0.cell 0 (v := .int .i64 0) rfl; have y16_2_0f0 := y16_2_0.free 0; have y16_2_0c1 := y16_2_0.cell 1 (v := .slice none 0 0) rfl; have y16_2_0f1 := y16_2_0.free 1; have y16_2_0l := y16_2_0.lt; have y16_2_0n := Nat.ne_of_lt y16_2_0l; have y16_2_0m := Nat.ne_of_gt y16_2_0l; have y16_2_0h := Lib.hid y16_2_0; clear y16_2_0)))
                      | (go_at_call 31; clear M1; have M2 := trivial; refine (ref6_Value ax ay bx b_ cx cy (show P3 ax ay bx b_ cx cy from ⟨hp.a, hp.b, hp.c, hp.d, hp.e, hp.f⟩) _).mono ?_; rintro e w15 ⟨⟨P2, p2, g2, rfl, d2, M2⟩, B⟩; have C15 := Lib.hid B; clear B; have hs15 : wc.heap.size ≤ w15.heap.size := Below.size (B := wc.heap.size) (by (repeat (first | (with_reducible refine below_st ?_ ?_; (focus (first | with_reducible assumption | with_reducible exact Nat.le_refl _ | (simp; done) | omega | (simp <;> omega)))) | with_reducible refine below_tr ?_ C15.out | with_reducible refine below_tr ?_ C14.out | with_reducible refine below_al ?_ | with_reducible exact below_rf | with_reducible refine below_dr ?_))); have GL_ := Lib.hid (fwd_nm (w' := w15) GL.out (by (repeat (first | with_reducible exact below_rf | with_reducible refine below_tr ?_ C15.out | with_reducible refine below_al ?_ | with_reducible refine below_dr ?_)))); clear GL; have GL := Lib.hid GL_.out; clear GL_; have GD := Lib.hid M2; clear M2; (try (refine have_then (T := Bx w15 (wc.heap.size) #[.int .i64 0, .slice none 0 0] 41) ?_ (fun y15_0_0 => ?_); (focus ((repeat (first | (with_reducible refine bx_new ?_; (focus (first | with_reducible rfl | (simp; done)))) | with_reducible refine bx_tr ?_ C15.out | with_reducible refine bx_tr ?_ C14.out | with_reducible refine bx_set2 (z0 := .slice none 0 0) (z1 := .slice none 0 0) ?_ | with_reducible refine bx_set2 (z0 := .int .i64 0) (z1 := .slice none 0 0) ?_ | with_reducible refine bx_set4 (z0 := .int .i64 0) (z1 := .slice none 0 0) (z2 := .int .i64 0) (z3 := .slice none 0 0) ?_ | (with_reducible refine bx_ot ?_ ?_; (focus (first | with_reducible assumption | with_reducible exact Nat.le_refl _ | (simp; done) | omega | (simp <;> omega)))) | with_reducible refine bx_al ?_ | with_reducible refine bx_dr ?_)); done)); have y15_0_0c0 := y15_0_0.cell 0 (v := .int .i64 0) rfl; have y15_0_0f0 := y15_0_0.free 0; have y15_0_0c1 := y15_0_0.cell 1 (v := .slice none 0 0) rfl; have y15_0_0f1 := y15_0_0.free 1; have y15_0_0l := y15_0_0.lt; have y15_0_0n := Nat.ne_of_lt y15_0_0l; have y15_0_0m := Nat.ne_of_gt y15_0_0l; have y15_0_0h := Lib.hid y15_0_0; clear y15_0_0)); (try (refine have_then (T := Bx w15 (w14.heap.size) #[.int .i64 0, .slice none 0 0] 41) ?_ (fun y15_1_0 => ?_); (focus ((repeat (first | (with_reducible refine bx_new ?_; (focus (first | with_reducible rfl | (simp; done)))) | with_reducible refine bx_tr ?_ C15.out | with_reducible refine bx_tr ?_ C14.out | with_reducible refine bx_set2 (z0 := .slice none 0 0) (z1 := .slice none 0 0) ?_ | with_reducible refine bx_set2 (z0 := .int .i64 0) (z1 := .slice none 0 0) ?_ | with_reducible refine bx_set4 (z0 := .int .i64 0) (z1 := .slice none 0 0) (z2 := .int .i64 0) (z3 := .slice none 0 0) ?_ | (with_reducible refine bx_ot ?_ ?_; (focus (first | with_reducible assumption | with_reducible exact Nat.le_refl _ | (simp; done) | omega | (simp <;> omega)))) | with_reducible refine bx_al ?_ | with_reducible refine bx_dr ?_)); done)); have y15_1_0c0 := y15_1_0.cell 0 (v := .int .i64 0) rfl; have y15_1_0f0 := y15_1_0.free 0; have y15_1_0c1 := y15_1_0.cell 1 (v := .slice none 0 0) rfl; have y15_1_0f1 := y15_1_0.free 1; have y15_1_0l := y15_1_0.lt; have y15_1_0n := Nat.ne_of_lt y15_1_0l; have y15_1_0m := Nat.ne_of_gt y15_1_0l; have y15_1_0h := Lib.hid y15_1_0; clear y15_1_0)))
                      | (go_at_call 33; clear M0; have M1 := trivial; refine (ref7_lift dx dy hp.g hp.h _).mono ?_; rintro e w14 ⟨⟨P1, p1, g1, rfl, d1, M1⟩, B⟩; have C14 := Lib.hid B; clear B; have hs14 : wc.heap.size ≤ w14.heap.size := Below.size (B := wc.heap.size) (by (repeat (first | (with_reducible refine below_st ?_ ?_; (focus (first | with_reducible assumption | with_reducible exact Nat.le_refl _ | (simp; done) | omega | (simp <;> omega)))) | with_reducible refine below_tr ?_ C14.out | with_reducible refine below_al ?_ | with_reducible exact below_rf | with_reducible refine below_dr ?_))); have GL := Lib.hid M1; clear M1; (try (refine have_then (T := Bx w14 (wc.heap.size) #[.int .i64 0, .slice none 0 0] 41) ?_ (fun y14_0_0 => ?_); (focus ((repeat (first | (with_reducible refine bx_new ?_; (focus (first | with_reducible rfl | (simp; done)))) | with_reducible refine bx_tr ?_ C14.out | with_reducible refine bx_set2 (z0 := .slice none 0 0) (z1 := .slice none 0 0) ?_ | with_reducible refine bx_set2 (z0 := .int .i64 0) (z1 := .slice none 0 0) ?_ | with_reducible refine bx_set4 (z0 := .int .i64 0) (z1 := .slice none 0 0) (z2 := .int .i64 0) (z3 := .slice none 0 0) ?_ | (with_reducible refine bx_ot ?_ ?_; (focus (first | with_reducible assumption | with_reducible exact Nat.le_refl _ | (simp; done) | omega | (simp <;> omega)))) | with_reducible refine bx_al ?_ | with_reducible refine bx_dr ?_)); done)); have y14_0_0c0 := y14_0_0.cell 0 (v := .int .i64 0) rfl; have y14_0_0f0 := y14_0_0.free 0; have y14_0_0c1 := y14_0_0.cell 1 (v := .slice none 0 0) rfl; have y14_0_0f1 := y14_0_0.free 1; have y14_0_0l := y14_0_0.lt; have y14_0_0n := Nat.ne_of_lt y14_0_0l; have y14_0_0m := Nat.ne_of_gt y14_0_0l; have y14_0_0h := Lib.hid y14_0_0; clear y14_0_0))))
          all_goals (go_wp2_with fail; go_meet; exact ⟨_, P3, p3, g3, rfl, (by first | with_reducible exact Nat.le_refl _ | with_reducible assumption | omega), by (repeat (first | with_reducible exact y16_0_0h.out | with_reducible exact y16_1_0h.out | with_reducible exact y16_2_0h.out | (with_reducible refine bx_set2 (z0 := .int .i64 0) (z1 := .slice none 0 0) ?_) | (with_reducible refine bx_new ?_; (focus (first | with_reducible rfl | (simp; done)))) | with_reducible refine bx_al ?_ | (with_reducible refine bx_ot ?_ ?_; (focus (first | with_reducible assumption | (simp; done) | omega | (simp <;> omega)))) | with_reducible refine bx_dr ?_)), by omega, by (repeat (first | with_reducible exact GM.out | (with_reducible refine nm_set2 (t := 41) (z0 := .int .i64 0) (z1 := .slice none 0 0) (by decide) ?_ ?_; (focus ((repeat (first | with_reducible exact y16_0_0h.out | with_reducible exact y16_1_0h.out | with_reducible exact y16_2_0h.out | (with_reducible refine bx_set2 (z0 := .int .i64 0) (z1 := .slice none 0 0) ?_) | (with_reducible refine bx_new ?_; (focus (first | with_reducible rfl | (simp; done)))) | with_reducible refine bx_al ?_ | (with_reducible refine bx_ot ?_ ?_; (focus (first | with_reducible assumption | (simp; done) | omega | (simp <;> omega)))) | with_reducible refine bx_dr ?_)); done))) | with_reducible refine nm_al ?_ | with_reducible refine nm_dr ?_)), by (repeat (first | (with_reducible refine below_st ?_ ?_; (focus (first | with_reducible assumption | with_reducible exact Nat.le_refl _ | (simp; done) | omega | (simp <;> omega)))) | with_reducible refine below_tr ?_ C16.out | with_reducible refine below_tr ?_ C15.out | with_reducible refine below_tr ?_ C14.out | with_reducible refine below_al ?_ | with_reducible exact below_rf | with_reducible refine below_dr ?_))⟩)
        case rest =>
          clear QF M0
          obtain ⟨bv, Zv, zv, yv, rfl, bgev, H, zkv, Nv, HCB⟩ := hcut
          have FP_17 := Lib.hid (FP_13.out.below HCB (Nat.le_refl _)); clear FP_13
          have FQ_17 := Lib.hid (FQ_13.out.below HCB (Nat.le_refl _)); clear FQ_13
          have FT_17 := Lib.hid (FT_13.out.below HCB (Nat.le_refl _)); clear FT_13
          have FV_17 := Lib.hid (FV_13.out.below HCB (Nat.le_refl _)); clear FV_13
          have FR_17 := Lib.hid (FR_13.out.below HCB (Nat.le_refl _)); clear FR_13
          have FBp_17 := Lib.hid (FBp_13.out.below HCB (Nat.le_refl _)); clear FBp_13
          have FNp_17 := Lib.hid (FNp_13.out.below HCB (Nat.le_refl _)); clear FNp_13
          have FBq_17 := Lib.hid (FBq_13.out.below HCB (Nat.le_refl _)); clear FBq_13
          have FNq_17 := Lib.hid (FNq_13.out.below HCB (Nat.le_refl _)); clear FNq_13
          have FBt_17 := Lib.hid (FBt.out.below HCB (Nat.le_refl _)); clear FBt
          have FNt_17 := Lib.hid (FNt.out.below HCB (Nat.le_refl _)); clear FNt
          have HB17 := Lib.hid (HB13.out.trans (HCB.mono HB13.out.size)); clear HCB HB13
          have FBv := Lib.hid H; have FNv := Lib.hid Nv; clear H Nv
          have rnv : w.heap.size + 1 + 1 + 1 + 1 < bv := Nat.lt_of_lt_of_le rlt bgev; clear bgev
          have rlv := FR_17.out.lt
          go_wp2_with fail
          have RB17 := Lib.hid (below_drew0 wc)
          have QS17 := Lib.hid (show wc.cell? ⟨bp, 0, none⟩ = some (.int .i64 (sg ((ax * ax + ay * ay) * det bx b_ cx cy dx dy))) ∧ wc.cell? ⟨bp, 1, none⟩ = some (.slice Zp zp yp) ∧ wc.cell? ⟨bq, 0, none⟩ = some (.int .i64 (sg ((bx * bx + b_ * b_) * det ax ay cx cy dx dy))) ∧ wc.cell? ⟨bq, 1, none⟩ = some (.slice Zq zq yq) ∧ wc.cell? ⟨bt, 0, none⟩ = some (.int .i64 (sg ((cx * cx + cy * cy) * det ax ay bx b_ dx dy))) ∧ wc.cell? ⟨bt, 1, none⟩ = some (.slice Zt zt yt) ∧ wc.cell? ⟨bv, 0, none⟩ = some (.int .i64 (sg ((dx * dx + dy * dy) * det ax ay bx b_ cx cy))) ∧ wc.cell? ⟨bv, 1, none⟩ = some (.slice Zv zv yv) from ⟨FBp_17.out.cell 0 (v := .int .i64 (sg ((ax * ax + ay * ay) * det bx b_ cx cy dx dy))) rfl, FBp_17.out.cell 1 (v := .slice Zp zp yp) rfl, FBq_17.out.cell 0 (v := .int .i64 (sg ((bx * bx + b_ * b_) * det ax ay cx cy dx dy))) rfl, FBq_17.out.cell 1 (v := .slice Zq zq yq) rfl, FBt_17.out.cell 0 (v := .int .i64 (sg ((cx * cx + cy * cy) * det ax ay bx b_ dx dy))) rfl, FBt_17.out.cell 1 (v := .slice Zt zt yt) rfl, FBv.out.cell 0 (v := .int .i64 (sg ((dx * dx + dy * dy) * det ax ay bx b_ cx cy))) rfl, FBv.out.cell 1 (v := .slice Zv zv yv) rfl⟩)
          have QF17 := Lib.hid (show ∀ w', Below wc.heap.size wc w' → w'.cell? ⟨bp, 0, none⟩ = some (.int .i64 (sg ((ax * ax + ay * ay) * det bx b_ cx cy dx dy))) ∧ w'.cell? ⟨bp, 1, none⟩ = some (.slice Zp zp yp) ∧ w'.cell? ⟨bq, 0, none⟩ = some (.int .i64 (sg ((bx * bx + b_ * b_) * det ax ay cx cy dx dy))) ∧ w'.cell? ⟨bq, 1, none⟩ = some (.slice Zq zq yq) ∧ w'.cell? ⟨bt, 0, none⟩ = some (.int .i64 (sg ((cx * cx + cy * cy) * det ax ay bx b_ dx dy))) ∧ w'.cell? ⟨bt, 1, none⟩ = some (.slice Zt zt yt) ∧ w'.cell? ⟨bv, 0, none⟩ = some (.int .i64 (sg ((dx * dx + dy * dy) * det ax ay bx b_ cx cy))) ∧ w'.cell? ⟨bv, 1, none⟩ = some (.slice Zv zv yv) from fun w' hb => ⟨(FBp_17.out.below hb (Nat.le_refl _)).cell 0 (v := .int .i64 (sg ((ax * ax + ay * ay) * det bx b_ cx cy dx dy))) rfl, (FBp_17.out.below hb (Nat.le_refl _)).cell 1 (v := .slice Zp zp yp) rfl, (FBq_17.out.below hb (Nat.le_refl _)).cell 0 (v := .int .i64 (sg ((bx * bx + b_ * b_) * det ax ay cx cy dx dy))) rfl, (FBq_17.out.below hb (Nat.le_refl _)).cell 1 (v := .slice Zq zq yq) rfl, (FBt_17.out.below hb (Nat.le_refl _)).cell 0 (v := .int .i64 (sg ((cx * cx + cy * cy) * det ax ay bx b_ dx dy))) rfl, (FBt_17.out.below hb (Nat.le_refl _)).cell 1 (v := .slice Zt zt yt) rfl, (FBv.out.below hb (Nat.le_refl _)).cell 0 (v := .int .i64 (sg ((dx * dx + dy * dy) * det ax ay bx b_ cx cy))) rfl, (FBv.out.below hb (Nat.le_refl _)).cell 1 (v := .slice Zv zv yv) rfl⟩)
          go_region_held3 (fun w' => w'.cell? ⟨bp, 0, none⟩ = some (.int .i64 (sg ((ax * ax + ay * ay) * det bx b_ cx cy dx dy))) ∧ w'.cell? ⟨bp, 1, none⟩ = some (.slice Zp zp yp) ∧ w'.cell? ⟨bq, 0, none⟩ = some (.int .i64 (sg ((bx * bx + b_ * b_) * det ax ay cx cy dx dy))) ∧ w'.cell? ⟨bq, 1, none⟩ = some (.slice Zq zq yq) ∧ w'.cell? ⟨bt, 0, none⟩ = some (.int .i64 (sg ((cx * cx + cy * cy) * det ax ay bx b_ dx dy))) ∧ w'.cell? ⟨bt, 1, none⟩ = some (.slice Zt zt yt) ∧ w'.cell? ⟨bv, 0, none⟩ = some (.int .i64 (sg ((dx * dx + dy * dy) * det ax ay bx b_ cx cy))) ∧ w'.cell? ⟨bv, 1, none⟩ = some (.slice Zv zv yv)) (first | with_reducible exact QF17.out _ RB20.out | with_reducible exact QF17.out _ RB19.out | with_reducible exact QF17.out _ RB18.out | with_reducible exact QS17.out | with_reducible exact QF17.out _ RB17.out | with_reducible exact ⟨keep_set (keep_set ((QF17.out _ RB20.out).1) (by simp <;> omega)) (by simp <;> omega), keep_set (keep_set ((QF17.out _ RB20.out).2.1) (by simp <;> omega)) (by simp <;> omega), keep_set (keep_set ((QF17.out _ RB20.out).2.2.1) (by simp <;> omega)) (by simp <;> omega), keep_set (keep_set ((QF17.out _ RB20.out).2.2.2.1) (by simp <;> omega)) (by simp <;> omega), keep_set (keep_set ((QF17.out _ RB20.out).2.2.2.2.1) (by simp <;> omega)) (by simp <;> omega), keep_set (keep_set ((QF17.out _ RB20.out).2.2.2.2.2.1) (by simp <;> omega)) (by simp <;> omega), keep_set (keep_set ((QF17.out _ RB20.out).2.2.2.2.2.2.1) (by simp <;> omega)) (by simp <;> omega), keep_set (keep_set ((QF17.out _ RB20.out).2.2.2.2.2.2.2) (by simp <;> omega)) (by simp <;> omega)⟩) (first
                      | (go_at_call 34; have := RB19; clear this; refine (ref3_AddZ P1 P2 p1 g1 p2 g2 _ _ _ (circ_ref ax ay bx b_ cx cy dx dy) _ RM1_19.out RM2_19.out (by omega) (by omega)).mono ?_; rintro e w20 ⟨⟨P3, p3, g3, rfl, d3, M3⟩, B⟩; have RB20 := Lib.hid (RB19.out.trans (B.mono RB19.out.size)); have RM1_20 := Lib.hid (RM1_19.out.below B (Nat.le_refl _)); have RM2_20 := Lib.hid (RM2_19.out.below B (Nat.le_refl _)); have RM3_20 := Lib.hid M3; clear B M3; have q0 := (FR_17.out.below RB20.out (Nat.le_refl _)).cell 0 (v := .int .i64 0) rfl; have q1 := (FR_17.out.below RB20.out (Nat.le_refl _)).cell 1 (v := .slice none 0 0) rfl; have z0 := (FR_17.out.below RB20.out (Nat.le_refl _)).free 0; have z1 := (FR_17.out.below RB20.out (Nat.le_refl _)).free 1)
                      | (go_at_call 35; have := RB18; clear this; refine (ref3_Sub Zt Zv zt yt zv yv _ _ _ (FNt_17.out.below RB18.out (Nat.le_refl _)) (FNv.out.below RB18.out (Nat.le_refl _)) (by omega) (by omega)).mono ?_; rintro e w19 ⟨⟨P2, p2, g2, rfl, d2, M2⟩, B⟩; have RB19 := Lib.hid (RB18.out.trans (B.mono RB18.out.size)); have RM1_19 := Lib.hid (RM1_18.out.below B (Nat.le_refl _)); have RM2_19 := Lib.hid M2; clear B M2)
                      | (go_at_call 35; have := RB17; clear this; refine (ref3_Sub Zp Zq zp yp zq yq _ _ _ (FNp_17.out.below RB17.out (Nat.le_refl _)) (FNq_17.out.below RB17.out (Nat.le_refl _)) (by omega) (by omega)).mono ?_; rintro e w18 ⟨⟨P1, p1, g1, rfl, d1, M1⟩, B⟩; have RB18 := Lib.hid (RB17.out.trans (B.mono RB17.out.size)); have RM1_18 := Lib.hid M1; clear B M1))
          have FP_20 := Lib.hid (FP_17.out.below RB20.out (Nat.le_refl _))
          have FQ_20 := Lib.hid (FQ_17.out.below RB20.out (Nat.le_refl _))
          have FT_20 := Lib.hid (FT_17.out.below RB20.out (Nat.le_refl _))
          have FV_20 := Lib.hid (FV_17.out.below RB20.out (Nat.le_refl _))
          have FR_20 := Lib.hid (FR_17.out.below RB20.out (Nat.le_refl _))
          have FBp_20 := Lib.hid (FBp_17.out.below RB20.out (Nat.le_refl _))
          have FNp_20 := Lib.hid (FNp_17.out.below RB20.out (Nat.le_refl _))
          have FBq_20 := Lib.hid (FBq_17.out.below RB20.out (Nat.le_refl _))
          have FNq_20 := Lib.hid (FNq_17.out.below RB20.out (Nat.le_refl _))
          have FBt_20 := Lib.hid (FBt_17.out.below RB20.out (Nat.le_refl _))
          have FNt_20 := Lib.hid (FNt_17.out.below RB20.out (Nat.le_refl _))
          have FBv_20 := Lib.hid (FBv.out.below RB20.out (Nat.le_refl _))
          have FNv_20 := Lib.hid (FNv.out.below RB20.out (Nat.le_refl _))
          have HB20 := Lib.hid (HB17.out.trans (RB20.out.mono HB17.out.size))
          clear HB17 FP_17 FQ_17 FT_17 FV_17 FR_17 FBp_17 FNp_17 FBq_17 FNq_17 FBt_17 FNt_17 FBv FNv
          go_wp2_with fail
          have r0 := FR_20.out
          have r1 := r0.set 0 (.int .i64 (sg (circ ax ay bx b_ cx cy dx dy)))
          refine bodyPost_ret (v := .agg #[.int .i64 (sg (circ ax ay bx b_ cx cy dx dy)), .slice P3 p3 g3]) (by simp [results, Tryz.results13, go_sem, q0, q1]) rfl ⟨⟨P3, p3, g3, rfl, by omega, ((RM3_20.out.setB r0 (by decide)).setB r1 (by decide))⟩, ?_⟩
          exact ((HB20.out.setCell (p := ⟨w.heap.size + 1 + 1 + 1 + 1, 0, none⟩) (by simp <;> omega) _).setCell (p := ⟨w.heap.size + 1 + 1 + 1 + 1, 1, none⟩) (by simp <;> omega) _)

set_option maxHeartbeats 2000000 in
theorem ref7_Side (ax ay bx b_ cx cy dx dy : Int) (hp : P4 ax ay bx b_ cx cy dx dy) (w : World) :
    Calls Tryz.prog 125 #[.agg #[.int .i64 ax, .int .i64 ay], .agg #[.int .i64 bx, .int .i64 b_], .agg #[.int .i64 cx, .int .i64 cy], .agg #[.int .i64 dx, .int .i64 dy]] w fun e w' => e = .returned (.int .i64 (sg (circ ax ay bx b_ cx cy dx dy) * sg (det ax ay bx b_ cx cy))) ∧ Below w.heap.size w w' := by
  have HB0 := Lib.hid (Below.refl w.heap.size w)
  have r1 := sign_range (circ ax ay bx b_ cx cy dx dy); have r2 := sign_range (det ax ay bx b_ cx cy)
  have hw := wrap_sg2 (circ ax ay bx b_ cx cy dx dy) (det ax ay bx b_ cx cy)
  have hfd : ∀ (s : Int) (V : Option Addr) (k c : Nat) (w : World), (Instr.field 41 (.agg #[.int .i64 s, .slice V k c]) 0).run Tryz.prog w = .ok (.int .i64 s) w := fun _ _ _ _ _ => by kernel_rfl
  go_enter Tryz.func125, Tryz.ntmps125
  go_wp2_with fail
  have B : Below w.heap.size w ((((w.alloc (.cells #[.int .i64 ax, .int .i64 ay] 23)).alloc (.cells #[.int .i64 bx, .int .i64 b_] 23)).alloc (.cells #[.int .i64 cx, .int .i64 cy] 23)).alloc (.cells #[.int .i64 dx, .int .i64 dy] 23)) := ((((HB0.out.alloc HB0.out.size _).alloc (HB0.out.alloc HB0.out.size _).size _).alloc ((HB0.out.alloc HB0.out.size _).alloc (HB0.out.alloc HB0.out.size _).size _).size _).alloc (((HB0.out.alloc HB0.out.size _).alloc (HB0.out.alloc HB0.out.size _).size _).alloc ((HB0.out.alloc HB0.out.size _).alloc (HB0.out.alloc HB0.out.size _).size _).size _).size _)
  have C : Below w.heap.size w ((((w.alloc (.cells #[.int .i64 ax, .int .i64 ay] 23)).alloc (.cells #[.int .i64 bx, .int .i64 b_] 23)).alloc (.cells #[.int .i64 cx, .int .i64 cy] 23)).alloc (.cells #[.int .i64 dx, .int .i64 dy] 23)) := (((((Below.refl w.heap.size w).alloc (Nat.le_refl _) _).alloc (by simp; try omega) _).alloc (by simp; try omega) _).alloc (by simp; try omega) _)
  have X0 : Bx ((((w.alloc (.cells #[.int .i64 ax, .int .i64 ay] 23)).alloc (.cells #[.int .i64 bx, .int .i64 b_] 23)).alloc (.cells #[.int .i64 cx, .int .i64 cy] 23)).alloc (.cells #[.int .i64 dx, .int .i64 dy] 23)) (w.heap.size) #[.int .i64 ax, .int .i64 ay] 23 := by simpa using ((((Bx.new w #[.int .i64 ax, .int .i64 ay] 23).alloc _).alloc _).alloc _)
  have X1 : Bx ((((w.alloc (.cells #[.int .i64 ax, .int .i64 ay] 23)).alloc (.cells #[.int .i64 bx, .int .i64 b_] 23)).alloc (.cells #[.int .i64 cx, .int .i64 cy] 23)).alloc (.cells #[.int .i64 dx, .int .i64 dy] 23)) (w.heap.size + 1) #[.int .i64 bx, .int .i64 b_] 23 := by simpa using (((Bx.new (w.alloc (.cells #[.int .i64 ax, .int .i64 ay] 23)) #[.int .i64 bx, .int .i64 b_] 23).alloc _).alloc _)
  have X2 : Bx ((((w.alloc (.cells #[.int .i64 ax, .int .i64 ay] 23)).alloc (.cells #[.int .i64 bx, .int .i64 b_] 23)).alloc (.cells #[.int .i64 cx, .int .i64 cy] 23)).alloc (.cells #[.int .i64 dx, .int .i64 dy] 23)) (w.heap.size + 1 + 1) #[.int .i64 cx, .int .i64 cy] 23 := by simpa using ((Bx.new ((w.alloc (.cells #[.int .i64 ax, .int .i64 ay] 23)).alloc (.cells #[.int .i64 bx, .int .i64 b_] 23)) #[.int .i64 cx, .int .i64 cy] 23).alloc _)
  have X3 : Bx ((((w.alloc (.cells #[.int .i64 ax, .int .i64 ay] 23)).alloc (.cells #[.int .i64 bx, .int .i64 b_] 23)).alloc (.cells #[.int .i64 cx, .int .i64 cy] 23)).alloc (.cells #[.int .i64 dx, .int .i64 dy] 23)) (w.heap.size + 1 + 1 + 1) #[.int .i64 dx, .int .i64 dy] 23 := by simpa using (Bx.new (((w.alloc (.cells #[.int .i64 ax, .int .i64 ay] 23)).alloc (.cells #[.int .i64 bx, .int .i64 b_] 23)).alloc (.cells #[.int .i64 cx, .int .i64 cy] 23)) #[.int .i64 dx, .int .i64 dy] 23)
  have HB1 := Lib.hid B
  have FP_1 := Lib.hid X0
  have FQ_1 := Lib.hid X1
  have FT_1 := Lib.hid X2
  have FV_1 := Lib.hid X3
  clear B C X0 X1 X2 X3 HB0 
  generalize ((((w.alloc (.cells #[.int .i64 ax, .int .i64 ay] 23)).alloc (.cells #[.int .i64 bx, .int .i64 b_] 23)).alloc (.cells #[.int .i64 cx, .int .i64 cy] 23)).alloc (.cells #[.int .i64 dx, .int .i64 dy] 23)) = w1 at *
  have RB1 := Lib.hid (below_drew0 w1)
  have QS1 := Lib.hid (show w1.cell? ⟨w.heap.size, 0, none⟩ = some (.int .i64 ax) ∧ w1.cell? ⟨w.heap.size, 1, none⟩ = some (.int .i64 ay) ∧ w1.cell? ⟨w.heap.size + 1, 0, none⟩ = some (.int .i64 bx) ∧ w1.cell? ⟨w.heap.size + 1, 1, none⟩ = some (.int .i64 b_) ∧ w1.cell? ⟨w.heap.size + 1 + 1, 0, none⟩ = some (.int .i64 cx) ∧ w1.cell? ⟨w.heap.size + 1 + 1, 1, none⟩ = some (.int .i64 cy) ∧ w1.cell? ⟨w.heap.size + 1 + 1 + 1, 0, none⟩ = some (.int .i64 dx) ∧ w1.cell? ⟨w.heap.size + 1 + 1 + 1, 1, none⟩ = some (.int .i64 dy) from ⟨FP_1.out.cell 0 (v := .int .i64 ax) rfl, FP_1.out.cell 1 (v := .int .i64 ay) rfl, FQ_1.out.cell 0 (v := .int .i64 bx) rfl, FQ_1.out.cell 1 (v := .int .i64 b_) rfl, FT_1.out.cell 0 (v := .int .i64 cx) rfl, FT_1.out.cell 1 (v := .int .i64 cy) rfl, FV_1.out.cell 0 (v := .int .i64 dx) rfl, FV_1.out.cell 1 (v := .int .i64 dy) rfl⟩)
  have QF1 := Lib.hid (show ∀ w', Below w1.heap.size w1 w' → w'.cell? ⟨w.heap.size, 0, none⟩ = some (.int .i64 ax) ∧ w'.cell? ⟨w.heap.size, 1, none⟩ = some (.int .i64 ay) ∧ w'.cell? ⟨w.heap.size + 1, 0, none⟩ = some (.int .i64 bx) ∧ w'.cell? ⟨w.heap.size + 1, 1, none⟩ = some (.int .i64 b_) ∧ w'.cell? ⟨w.heap.size + 1 + 1, 0, none⟩ = some (.int .i64 cx) ∧ w'.cell? ⟨w.heap.size + 1 + 1, 1, none⟩ = some (.int .i64 cy) ∧ w'.cell? ⟨w.heap.size + 1 + 1 + 1, 0, none⟩ = some (.int .i64 dx) ∧ w'.cell? ⟨w.heap.size + 1 + 1 + 1, 1, none⟩ = some (.int .i64 dy) from fun w' hb => ⟨(FP_1.out.below hb (Nat.le_refl _)).cell 0 (v := .int .i64 ax) rfl, (FP_1.out.below hb (Nat.le_refl _)).cell 1 (v := .int .i64 ay) rfl, (FQ_1.out.below hb (Nat.le_refl _)).cell 0 (v := .int .i64 bx) rfl, (FQ_1.out.below hb (Nat.le_refl _)).cell 1 (v := .int .i64 b_) rfl, (FT_1.out.below hb (Nat.le_refl _)).cell 0 (v := .int .i64 cx) rfl, (FT_1.out.below hb (Nat.le_refl _)).cell 1 (v := .int .i64 cy) rfl, (FV_1.out.below hb (Nat.le_refl _)).cell 0 (v := .int .i64 dx) rfl, (FV_1.out.below hb (Nat.le_refl _)).cell 1 (v := .int .i64 dy) rfl⟩)
  go_region_held3 (fun w' => w'.cell? ⟨w.heap.size, 0, none⟩ = some (.int .i64 ax) ∧ w'.cell? ⟨w.heap.size, 1, none⟩ = some (.int .i64 ay) ∧ w'.cell? ⟨w.heap.size + 1, 0, none⟩ = some (.int .i64 bx) ∧ w'.cell? ⟨w.heap.size + 1, 1, none⟩ = some (.int .i64 b_) ∧ w'.cell? ⟨w.heap.size + 1 + 1, 0, none⟩ = some (.int .i64 cx) ∧ w'.cell? ⟨w.heap.size + 1 + 1, 1, none⟩ = some (.int .i64 cy) ∧ w'.cell? ⟨w.heap.size + 1 + 1 + 1, 0, none⟩ = some (.int .i64 dx) ∧ w'.cell? ⟨w.heap.size + 1 + 1 + 1, 1, none⟩ = some (.int .i64 dy)) (first | with_reducible exact QF1.out _ RB3.out | with_reducible exact QF1.out _ RB2.out | with_reducible exact QS1.out | with_reducible exact QF1.out _ RB1.out) (first
      | (go_at_call 12; have := RB2; clear this; refine (ref6_Sign _ _ _ _ _ _ ⟨hp.a, hp.b, hp.c, hp.d, hp.e, hp.f⟩ _).mono ?_; rintro e w3 ⟨rfl, B⟩; have RB3 := Lib.hid (RB2.out.trans (B.mono RB2.out.size)); clear B )
      | (go_at_call 13; have := RB1; clear this; refine (ref7_Value _ _ _ _ _ _ _ _ hp _).mono ?_; rintro e w2 ⟨⟨P1, p1, g1, rfl, d1, M1⟩, B⟩; have RB2 := Lib.hid (RB1.out.trans (B.mono RB1.out.size)); clear B ; clear M1))
  have FP_3 := Lib.hid (FP_1.out.below RB3.out (Nat.le_refl _))
  have FQ_3 := Lib.hid (FQ_1.out.below RB3.out (Nat.le_refl _))
  have FT_3 := Lib.hid (FT_1.out.below RB3.out (Nat.le_refl _))
  have FV_3 := Lib.hid (FV_1.out.below RB3.out (Nat.le_refl _))
  have HB3 := Lib.hid (HB1.out.trans (RB3.out.mono HB1.out.size))
  clear HB1 FP_1 FQ_1 FT_1 FV_1
  go_wp2_with fail
  go_ret
  exact ⟨rfl, HB3.out⟩

end Go.Proofs.YtjdiilkljgljkaaGreatDoor
namespace Go.Proofs.YtjdiilkljgljkaaGreatDoor
set_option linter.unusedVariables false
set_option linter.unusedSimpArgs false
open Go.RowKit Wd

end Go.Proofs.YtjdiilkljgljkaaGreatDoor
namespace Go.Proofs.YtjdiilkljgljkaaGreatDoor
set_option linter.unusedVariables false
set_option linter.unusedSimpArgs false
open Go.RowKit Wd

end Go.Proofs.YtjdiilkljgljkaaGreatDoor
namespace Go.Proofs.YtjdiilkljgljkaaGreatDoor
set_option linter.unusedVariables false
set_option linter.unusedSimpArgs false
open Go.RowKit Wd

end Go.Proofs.YtjdiilkljgljkaaGreatDoor
namespace Go.Proofs.YtjdiilkljgljkaaGreatDoor
set_option linter.unusedVariables false
set_option linter.unusedSimpArgs false
open Go.RowKit Wd

end Go.Proofs.YtjdiilkljgljkaaGreatDoor
namespace Go.Proofs.YtjdiilkljgljkaaGreatDoor
set_option linter.unusedVariables false
set_option linter.unusedSimpArgs false
open Go.RowKit Wd

theorem sg_zeroD (x : Int) : (sg x == 0) = decide (x = 0) := by
  unfold sg; rcases (by omega : x < 0 ∨ x = 0 ∨ 0 < x) with h | h | h
  · rw [Int.sign_eq_neg_one_of_neg h]; simp; omega
  · subst h; rfl
  · rw [Int.sign_eq_one_of_pos h]; simp; omega
end Go.Proofs.YtjdiilkljgljkaaGreatDoor
namespace Go.Proofs.YtjdiilkljgljkaaGreatDoor
set_option linter.unusedVariables false
set_option linter.unusedSimpArgs false
open Go.RowKit Wd

set_option maxHeartbeats 4000000 in
theorem ref15_Valid3 (b off c : Nat) (ax ay bx b_ cx cy : Int) (hp : P3 ax ay bx b_ cx cy) (w : World) (hc : 3 ≤ c) (hx : C6 w b off ax ay bx b_ cx cy) :
    Calls Tryz.prog 64 #[.slice (some ⟨b, off, none⟩) 3 c] w fun e w' => e = .returned (.bool (!decide (det ax ay bx b_ cx cy = 0))) ∧ Below w.heap.size w w' := by
  have HB0 := Lib.hid (Below.refl w.heap.size w)
  have FX := Lib.hid hx
  clear hx
  have hr := sign_range (det ax ay bx b_ cx cy)
  rw [show (!decide (det ax ay bx b_ cx cy = 0)) = (sg (det ax ay bx b_ cx cy) != 0) from by rw [bne, sg_zeroD]]
  go_enter Tryz.func64, Tryz.ntmps64
  go_wp2_with fail
  have RB0 := Lib.hid (below_drew0 w)
  have QF0 := Lib.hid (show ∀ w', Below w.heap.size w w' → w'.cell? ⟨b, off, none⟩ = some (.int .i64 ax) ∧ w'.cell? ⟨b, off + 1, none⟩ = some (.int .i64 ay) ∧ w'.cell? ⟨b, off + 2, none⟩ = some (.int .i64 bx) ∧ w'.cell? ⟨b, off + 3, none⟩ = some (.int .i64 b_) ∧ w'.cell? ⟨b, off + 4, none⟩ = some (.int .i64 cx) ∧ w'.cell? ⟨b, off + 5, none⟩ = some (.int .i64 cy) from fun w' hb => ⟨(FX.out.below hb (Nat.le_refl _)).c0, (FX.out.below hb (Nat.le_refl _)).c1, (FX.out.below hb (Nat.le_refl _)).c2, (FX.out.below hb (Nat.le_refl _)).c3, (FX.out.below hb (Nat.le_refl _)).c4, (FX.out.below hb (Nat.le_refl _)).c5⟩)
  refine wp_region_held_drew (S := fun w' => w'.cell? ⟨b, off, none⟩ = some (.int .i64 ax) ∧ w'.cell? ⟨b, off + 1, none⟩ = some (.int .i64 ay) ∧ w'.cell? ⟨b, off + 2, none⟩ = some (.int .i64 bx) ∧ w'.cell? ⟨b, off + 3, none⟩ = some (.int .i64 b_) ∧ w'.cell? ⟨b, off + 4, none⟩ = some (.int .i64 cx) ∧ w'.cell? ⟨b, off + 5, none⟩ = some (.int .i64 cy)) (by kernel_rfl) (QF0.out _ RB0.out) (fun hHeld => ?_)
  refine wpAnyH_take (i := 0) (v := ?_) (by simp only [List.getElem?_toArray, List.getElem?_cons_succ, List.getElem?_cons_zero]; rfl) (by kernel_rfl) (by kernel_rfl) (by kernel_rfl) (by intro _ _ _ h; exact h) (Or.inl ⟨by rfl, ?_⟩) hHeld ?_
  rotate_left 1
  · intro w hSw; (try dsimp only at hSw); go_simp; try with_reducible rfl
  try simp only [Act.put, List.setIfInBounds_toArray, List.set_cons_zero, List.set_cons_succ]
  refine wpAnyH_take (i := 1) (v := ?_) (by simp only [List.getElem?_toArray, List.getElem?_cons_succ, List.getElem?_cons_zero]; rfl) (by kernel_rfl) (by kernel_rfl) (by kernel_rfl) (by intro _ _ _ h; exact h) (Or.inl ⟨by rfl, ?_⟩) hHeld ?_
  rotate_left 1
  · intro w hSw; (try dsimp only at hSw); go_simp; try with_reducible rfl
  try simp only [Act.put, List.setIfInBounds_toArray, List.set_cons_zero, List.set_cons_succ]
  refine wpAnyH_take (i := 2) (v := ?_) (by simp only [List.getElem?_toArray, List.getElem?_cons_succ, List.getElem?_cons_zero]; rfl) (by kernel_rfl) (by kernel_rfl) (by kernel_rfl) (by intro _ _ _ h; exact h) (Or.inl ⟨by rfl, ?_⟩) hHeld ?_
  rotate_left 1
  · intro w hSw; (try dsimp only at hSw); go_simp; try with_reducible rfl
  try simp only [Act.put, List.setIfInBounds_toArray, List.set_cons_zero, List.set_cons_succ]
  refine wpAnyH_take (i := 3) (v := ?_) (by simp only [List.getElem?_toArray, List.getElem?_cons_succ, List.getElem?_cons_zero]; rfl) (by kernel_rfl) (by kernel_rfl) (by kernel_rfl) (by intro _ _ _ h; exact h) (Or.inl ⟨by rfl, ?_⟩) hHeld ?_
  rotate_left 1
  · intro w hSw; (try dsimp only at hSw); go_simp; try with_reducible rfl
  try simp only [Act.put, List.setIfInBounds_toArray, List.set_cons_zero, List.set_cons_succ]
  refine wpAnyH_take (i := 4) (v := ?_) (by simp only [List.getElem?_toArray, List.getElem?_cons_succ, List.getElem?_cons_zero]; rfl) (by kernel_rfl) (by kernel_rfl) (by kernel_rfl) (by intro _ _ _ h; exact h) (Or.inl ⟨by rfl, ?_⟩) hHeld ?_
  rotate_left 1
  · intro w hSw; (try dsimp only at hSw); go_simp; try with_reducible rfl
  try simp only [Act.put, List.setIfInBounds_toArray, List.set_cons_zero, List.set_cons_succ]
  refine wpAnyH_take (i := 5) (v := ?_) (by simp only [List.getElem?_toArray, List.getElem?_cons_succ, List.getElem?_cons_zero]; rfl) (by kernel_rfl) (by kernel_rfl) (by kernel_rfl) (by intro _ _ _ h; exact h) (Or.inl ⟨by rfl, ?_⟩) hHeld ?_
  rotate_left 1
  · intro w hSw; (try dsimp only at hSw); go_simp; try with_reducible rfl
  try simp only [Act.put, List.setIfInBounds_toArray, List.set_cons_zero, List.set_cons_succ]
  refine wpAnyH_take (i := 6) (v := ?_) (by simp only [List.getElem?_toArray, List.getElem?_cons_succ, List.getElem?_cons_zero]; rfl) (by kernel_rfl) (by kernel_rfl) (by kernel_rfl) (by intro _ _ _ h; exact h) (Or.inl ⟨by rfl, ?_⟩) hHeld ?_
  rotate_left 1
  · intro w hSw; (try dsimp only at hSw); go_simp; try with_reducible rfl
  try simp only [Act.put, List.setIfInBounds_toArray, List.set_cons_zero, List.set_cons_succ]
  refine wpAnyH_take (i := 7) (v := ?_) (by simp only [List.getElem?_toArray, List.getElem?_cons_succ, List.getElem?_cons_zero]; rfl) (by kernel_rfl) (by kernel_rfl) (by kernel_rfl) (by intro _ _ _ h; exact h) (Or.inl ⟨by rfl, ?_⟩) hHeld ?_
  rotate_left 1
  · intro w hSw; (try dsimp only at hSw); go_simp; try with_reducible rfl
  try simp only [Act.put, List.setIfInBounds_toArray, List.set_cons_zero, List.set_cons_succ]
  refine wpAnyH_take (i := 8) (v := ?_) (by simp only [List.getElem?_toArray, List.getElem?_cons_succ, List.getElem?_cons_zero]; rfl) (by kernel_rfl) (by kernel_rfl) (by kernel_rfl) (by intro _ _ _ h; exact h) (Or.inl ⟨by rfl, ?_⟩) hHeld ?_
  rotate_left 1
  · intro w hSw; (try dsimp only at hSw); go_simp; try with_reducible rfl
  try simp only [Act.put, List.setIfInBounds_toArray, List.set_cons_zero, List.set_cons_succ]
  refine wpAnyH_take (i := 9) (v := ?_) (by simp only [List.getElem?_toArray, List.getElem?_cons_succ, List.getElem?_cons_zero]; rfl) (by kernel_rfl) (by kernel_rfl) (by kernel_rfl) (by intro _ _ _ h; exact h) (Or.inl ⟨by rfl, ?_⟩) hHeld ?_
  rotate_left 1
  · intro w hSw; (try dsimp only at hSw); go_simp; try with_reducible rfl
  try simp only [Act.put, List.setIfInBounds_toArray, List.set_cons_zero, List.set_cons_succ]
  refine wpAnyH_take (i := 10) (v := ?_) (by simp only [List.getElem?_toArray, List.getElem?_cons_succ, List.getElem?_cons_zero]; rfl) (by kernel_rfl) (by kernel_rfl) (by kernel_rfl) (by intro _ _ _ h; exact h) (Or.inl ⟨by rfl, ?_⟩) hHeld ?_
  rotate_left 1
  · intro w hSw; (try dsimp only at hSw); go_simp; try with_reducible rfl
  try simp only [Act.put, List.setIfInBounds_toArray, List.set_cons_zero, List.set_cons_succ]
  refine wpAnyH_take (i := 11) (v := ?_) (by simp only [List.getElem?_toArray, List.getElem?_cons_succ, List.getElem?_cons_zero]; rfl) (by kernel_rfl) (by kernel_rfl) (by kernel_rfl) (by intro _ _ _ h; exact h) (Or.inl ⟨by rfl, ?_⟩) hHeld ?_
  rotate_left 1
  · intro w hSw; (try dsimp only at hSw); go_simp; try with_reducible rfl
  try simp only [Act.put, List.setIfInBounds_toArray, List.set_cons_zero, List.set_cons_succ]
  refine wpAnyH_take (i := 12) (v := ?_) (by simp only [List.getElem?_toArray, List.getElem?_cons_succ, List.getElem?_cons_zero]; rfl) (by kernel_rfl) (by kernel_rfl) (by kernel_rfl) (by intro _ _ _ h; exact h) (Or.inl ⟨by rfl, ?_⟩) hHeld ?_
  rotate_left 1
  · intro w hSw; (try dsimp only at hSw); go_simp; try with_reducible rfl
  try simp only [Act.put, List.setIfInBounds_toArray, List.set_cons_zero, List.set_cons_succ]
  refine wpAnyH_ready (rs := [13]) (by kernel_rfl) (by simp) ?_
  refine AllReadyH.cons (by simp only [List.getElem?_toArray, List.getElem?_cons_succ, List.getElem?_cons_zero]; rfl) (fun K hK => ?_) AllReadyH.nil
  go_simp
  refine (ref6_Sign _ _ _ _ _ _ hp _).mono ?_
  rintro e w1 ⟨rfl, B⟩
  have RB1 := Lib.hid (RB0.out.trans (B.mono RB0.out.size))
  clear B 
  go_wp2_with fail
  refine hK.out _ _ (QF0.out _ RB1.out) (fun hHeld1 => ?_)
  clear hK K hHeld; have hHeld := hHeld1; clear hHeld1
  try simp only [Act.put, List.setIfInBounds_toArray, List.set_cons_zero, List.set_cons_succ]
  refine wpAnyH_take (i := 14) (v := ?_) (by simp only [List.getElem?_toArray, List.getElem?_cons_succ, List.getElem?_cons_zero]; rfl) (by kernel_rfl) (by kernel_rfl) (by kernel_rfl) (by intro _ _ _ h; exact h) (Or.inl ⟨by rfl, ?_⟩) hHeld ?_
  rotate_left 1
  · intro w hSw; (try dsimp only at hSw); go_simp; try with_reducible rfl
  try simp only [Act.put, List.setIfInBounds_toArray, List.set_cons_zero, List.set_cons_succ]
  refine wpAnyH_take (i := 15) (v := ?_) (by simp only [List.getElem?_toArray, List.getElem?_cons_succ, List.getElem?_cons_zero]; rfl) (by kernel_rfl) (by kernel_rfl) (by kernel_rfl) (by intro _ _ _ h; exact h) (Or.inl ⟨by rfl, ?_⟩) hHeld ?_
  rotate_left 1
  · intro w hSw; (try dsimp only at hSw); go_simp; try with_reducible rfl
  try simp only [Act.put, List.setIfInBounds_toArray, List.set_cons_zero, List.set_cons_succ]
  refine wpAnyH_take (i := 16) (v := ?_) (by simp only [List.getElem?_toArray, List.getElem?_cons_succ, List.getElem?_cons_zero]; rfl) (by kernel_rfl) (by kernel_rfl) (by kernel_rfl) (by intro _ _ _ h; exact h) (Or.inl ⟨by rfl, ?_⟩) hHeld ?_
  rotate_left 1
  · intro w hSw; (try dsimp only at hSw); go_simp; try with_reducible rfl
  try simp only [Act.put, List.setIfInBounds_toArray, List.set_cons_zero, List.set_cons_succ]
  refine wpAnyH_done (by kernel_rfl) ?_ _
  have FX_1 := Lib.hid (FX.out.below RB1.out (Nat.le_refl _))
  have HB1 := Lib.hid (HB0.out.trans (RB1.out.mono HB0.out.size))
  clear hHeld HB0 FX
  go_wp2_with fail
  go_ret
  exact ⟨rfl, HB1.out⟩

set_option maxHeartbeats 4000000 in
theorem ref15_Locate3 (b off c : Nat) (ax ay bx b_ cx cy dx dy : Int) (hp : P4 ax ay bx b_ cx cy dx dy) (w : World) (hc : 3 ≤ c) (hx : C6 w b off ax ay bx b_ cx cy) :
    Calls Tryz.prog 98 #[.slice (some ⟨b, off, none⟩) 3 c, .agg #[.int .i64 dx, .int .i64 dy]] w fun e w' => e = .returned (.int .i64 (sg (circ ax ay bx b_ cx cy dx dy) * sg (det ax ay bx b_ cx cy))) ∧ Below w.heap.size w w' := by
  have HB0 := Lib.hid (Below.refl w.heap.size w)
  have FX := Lib.hid hx
  clear hx
  go_enter Tryz.func98, Tryz.ntmps98
  go_wp2_with fail
  have B : Below w.heap.size w (w.alloc (.cells #[.int .i64 dx, .int .i64 dy] 23)) := (HB0.out.alloc HB0.out.size _)
  have C : Below w.heap.size w (w.alloc (.cells #[.int .i64 dx, .int .i64 dy] 23)) := ((Below.refl w.heap.size w).alloc (Nat.le_refl _) _)
  have X0 : Bx (w.alloc (.cells #[.int .i64 dx, .int .i64 dy] 23)) (w.heap.size) #[.int .i64 dx, .int .i64 dy] 23 := by simpa using (Bx.new w #[.int .i64 dx, .int .i64 dy] 23)
  have FX_1 := Lib.hid (FX.out.below C (Nat.le_refl _))
  have HB1 := Lib.hid B
  have FP_1 := Lib.hid X0
  clear B C X0 HB0 FX
  generalize (w.alloc (.cells #[.int .i64 dx, .int .i64 dy] 23)) = w1 at *
  have RB1 := Lib.hid (below_drew0 w1)
  have QF1 := Lib.hid (show ∀ w', Below w1.heap.size w1 w' → w'.cell? ⟨b, off, none⟩ = some (.int .i64 ax) ∧ w'.cell? ⟨b, off + 1, none⟩ = some (.int .i64 ay) ∧ w'.cell? ⟨b, off + 2, none⟩ = some (.int .i64 bx) ∧ w'.cell? ⟨b, off + 3, none⟩ = some (.int .i64 b_) ∧ w'.cell? ⟨b, off + 4, none⟩ = some (.int .i64 cx) ∧ w'.cell? ⟨b, off + 5, none⟩ = some (.int .i64 cy) ∧ w'.cell? ⟨w.heap.size, 0, none⟩ = some (.int .i64 dx) ∧ w'.cell? ⟨w.heap.size, 1, none⟩ = some (.int .i64 dy) from fun w' hb => ⟨(FX_1.out.below hb (Nat.le_refl _)).c0, (FX_1.out.below hb (Nat.le_refl _)).c1, (FX_1.out.below hb (Nat.le_refl _)).c2, (FX_1.out.below hb (Nat.le_refl _)).c3, (FX_1.out.below hb (Nat.le_refl _)).c4, (FX_1.out.below hb (Nat.le_refl _)).c5, (FP_1.out.below hb (Nat.le_refl _)).cell 0 (v := .int .i64 dx) rfl, (FP_1.out.below hb (Nat.le_refl _)).cell 1 (v := .int .i64 dy) rfl⟩)
  refine wp_region_held_drew (S := fun w' => w'.cell? ⟨b, off, none⟩ = some (.int .i64 ax) ∧ w'.cell? ⟨b, off + 1, none⟩ = some (.int .i64 ay) ∧ w'.cell? ⟨b, off + 2, none⟩ = some (.int .i64 bx) ∧ w'.cell? ⟨b, off + 3, none⟩ = some (.int .i64 b_) ∧ w'.cell? ⟨b, off + 4, none⟩ = some (.int .i64 cx) ∧ w'.cell? ⟨b, off + 5, none⟩ = some (.int .i64 cy) ∧ w'.cell? ⟨w.heap.size, 0, none⟩ = some (.int .i64 dx) ∧ w'.cell? ⟨w.heap.size, 1, none⟩ = some (.int .i64 dy)) (by kernel_rfl) (QF1.out _ RB1.out) (fun hHeld => ?_)
  refine wpAnyH_take (i := 0) (v := ?_) (by simp only [List.getElem?_toArray, List.getElem?_cons_succ, List.getElem?_cons_zero]; rfl) (by kernel_rfl) (by kernel_rfl) (by kernel_rfl) (by intro _ _ _ h; exact h) (Or.inl ⟨by rfl, ?_⟩) hHeld ?_
  rotate_left 1
  · intro w hSw; (try dsimp only at hSw); go_simp; try with_reducible rfl
  try simp only [Act.put, List.setIfInBounds_toArray, List.set_cons_zero, List.set_cons_succ]
  refine wpAnyH_take (i := 1) (v := ?_) (by simp only [List.getElem?_toArray, List.getElem?_cons_succ, List.getElem?_cons_zero]; rfl) (by kernel_rfl) (by kernel_rfl) (by kernel_rfl) (by intro _ _ _ h; exact h) (Or.inl ⟨by rfl, ?_⟩) hHeld ?_
  rotate_left 1
  · intro w hSw; (try dsimp only at hSw); go_simp; try with_reducible rfl
  try simp only [Act.put, List.setIfInBounds_toArray, List.set_cons_zero, List.set_cons_succ]
  refine wpAnyH_take (i := 2) (v := ?_) (by simp only [List.getElem?_toArray, List.getElem?_cons_succ, List.getElem?_cons_zero]; rfl) (by kernel_rfl) (by kernel_rfl) (by kernel_rfl) (by intro _ _ _ h; exact h) (Or.inl ⟨by rfl, ?_⟩) hHeld ?_
  rotate_left 1
  · intro w hSw; (try dsimp only at hSw); go_simp; try with_reducible rfl
  try simp only [Act.put, List.setIfInBounds_toArray, List.set_cons_zero, List.set_cons_succ]
  refine wpAnyH_take (i := 3) (v := ?_) (by simp only [List.getElem?_toArray, List.getElem?_cons_succ, List.getElem?_cons_zero]; rfl) (by kernel_rfl) (by kernel_rfl) (by kernel_rfl) (by intro _ _ _ h; exact h) (Or.inl ⟨by rfl, ?_⟩) hHeld ?_
  rotate_left 1
  · intro w hSw; (try dsimp only at hSw); go_simp; try with_reducible rfl
  try simp only [Act.put, List.setIfInBounds_toArray, List.set_cons_zero, List.set_cons_succ]
  refine wpAnyH_take (i := 4) (v := ?_) (by simp only [List.getElem?_toArray, List.getElem?_cons_succ, List.getElem?_cons_zero]; rfl) (by kernel_rfl) (by kernel_rfl) (by kernel_rfl) (by intro _ _ _ h; exact h) (Or.inl ⟨by rfl, ?_⟩) hHeld ?_
  rotate_left 1
  · intro w hSw; (try dsimp only at hSw); go_simp; try with_reducible rfl
  try simp only [Act.put, List.setIfInBounds_toArray, List.set_cons_zero, List.set_cons_succ]
  refine wpAnyH_take (i := 5) (v := ?_) (by simp only [List.getElem?_toArray, List.getElem?_cons_succ, List.getElem?_cons_zero]; rfl) (by kernel_rfl) (by kernel_rfl) (by kernel_rfl) (by intro _ _ _ h; exact h) (Or.inl ⟨by rfl, ?_⟩) hHeld ?_
  rotate_left 1
  · intro w hSw; (try dsimp only at hSw); go_simp; try with_reducible rfl
  try simp only [Act.put, List.setIfInBounds_toArray, List.set_cons_zero, List.set_cons_succ]
  refine wpAnyH_take (i := 6) (v := ?_) (by simp only [List.getElem?_toArray, List.getElem?_cons_succ, List.getElem?_cons_zero]; rfl) (by kernel_rfl) (by kernel_rfl) (by kernel_rfl) (by intro _ _ _ h; exact h) (Or.inl ⟨by rfl, ?_⟩) hHeld ?_
  rotate_left 1
  · intro w hSw; (try dsimp only at hSw); go_simp; try with_reducible rfl
  try simp only [Act.put, List.setIfInBounds_toArray, List.set_cons_zero, List.set_cons_succ]
  refine wpAnyH_take (i := 7) (v := ?_) (by simp only [List.getElem?_toArray, List.getElem?_cons_succ, List.getElem?_cons_zero]; rfl) (by kernel_rfl) (by kernel_rfl) (by kernel_rfl) (by intro _ _ _ h; exact h) (Or.inl ⟨by rfl, ?_⟩) hHeld ?_
  rotate_left 1
  · intro w hSw; (try dsimp only at hSw); go_simp; try with_reducible rfl
  try simp only [Act.put, List.setIfInBounds_toArray, List.set_cons_zero, List.set_cons_succ]
  refine wpAnyH_take (i := 8) (v := ?_) (by simp only [List.getElem?_toArray, List.getElem?_cons_succ, List.getElem?_cons_zero]; rfl) (by kernel_rfl) (by kernel_rfl) (by kernel_rfl) (by intro _ _ _ h; exact h) (Or.inl ⟨by rfl, ?_⟩) hHeld ?_
  rotate_left 1
  · intro w hSw; (try dsimp only at hSw); go_simp; try with_reducible rfl
  try simp only [Act.put, List.setIfInBounds_toArray, List.set_cons_zero, List.set_cons_succ]
  refine wpAnyH_take (i := 9) (v := ?_) (by simp only [List.getElem?_toArray, List.getElem?_cons_succ, List.getElem?_cons_zero]; rfl) (by kernel_rfl) (by kernel_rfl) (by kernel_rfl) (by intro _ _ _ h; exact h) (Or.inl ⟨by rfl, ?_⟩) hHeld ?_
  rotate_left 1
  · intro w hSw; (try dsimp only at hSw); go_simp; try with_reducible rfl
  try simp only [Act.put, List.setIfInBounds_toArray, List.set_cons_zero, List.set_cons_succ]
  refine wpAnyH_ready (rs := [10]) (by kernel_rfl) (by simp) ?_
  refine AllReadyH.cons (by simp only [List.getElem?_toArray, List.getElem?_cons_succ, List.getElem?_cons_zero]; rfl) (fun K hK => ?_) AllReadyH.nil
  go_simp
  refine (ref7_Side _ _ _ _ _ _ _ _ hp _).mono ?_
  rintro e w2 ⟨rfl, B⟩
  have RB2 := Lib.hid (RB1.out.trans (B.mono RB1.out.size))
  clear B 
  go_wp2_with fail
  refine hK.out _ _ (QF1.out _ RB2.out) (fun hHeld2 => ?_)
  clear hK K hHeld; have hHeld := hHeld2; clear hHeld2
  try simp only [Act.put, List.setIfInBounds_toArray, List.set_cons_zero, List.set_cons_succ]
  refine wpAnyH_take (i := 11) (v := ?_) (by simp only [List.getElem?_toArray, List.getElem?_cons_succ, List.getElem?_cons_zero]; rfl) (by kernel_rfl) (by kernel_rfl) (by kernel_rfl) (by intro _ _ _ h; exact h) (Or.inl ⟨by rfl, ?_⟩) hHeld ?_
  rotate_left 1
  · intro w hSw; (try dsimp only at hSw); go_simp; try with_reducible rfl
  try simp only [Act.put, List.setIfInBounds_toArray, List.set_cons_zero, List.set_cons_succ]
  refine wpAnyH_done (by kernel_rfl) ?_ _
  have FX_2 := Lib.hid (FX_1.out.below RB2.out (Nat.le_refl _))
  have FP_2 := Lib.hid (FP_1.out.below RB2.out (Nat.le_refl _))
  have HB2 := Lib.hid (HB1.out.trans (RB2.out.mono HB1.out.size))
  clear hHeld HB1 FX_1 FP_1
  go_wp2_with fail
  go_ret
  exact ⟨rfl, HB2.out⟩

end Go.Proofs.YtjdiilkljgljkaaGreatDoor
namespace Go.Proofs.YtjdiilkljgljkaaGreatDoor
set_option linter.unusedVariables false
set_option linter.unusedSimpArgs false
open Go.RowKit Wd

theorem ref15_V (A : Option Addr) (c : Nat) (f g : Nat → Int) (w : World) (hp : Pts w A 3 c f g) :
    Calls Tryz.prog 64 #[.slice A 3 c] w fun e w' => e = .returned (.bool (validR 0 f g 3)) ∧ Below w.heap.size w w' := by
  obtain ⟨b, off, rfl, hx⟩ := hp.t3.at_
  exact ref15_Valid3 b off c _ _ _ _ _ _ hp.p3 w hp.cap hx
theorem ref15_L (A : Option Addr) (c : Nat) (f g : Nat → Int) (x y : Int) (hx : IsI x) (hy : IsI y) (w : World) (hp : Pts w A 3 c f g) :
    Calls Tryz.prog 98 #[.slice A 3 c, .agg #[.int .i64 x, .int .i64 y]] w fun e w' => e = .returned (.int .i64 (locR 0 f g 3 x y)) ∧ Below w.heap.size w w' := by
  obtain ⟨b, off, rfl, hx3⟩ := hp.t3.at_
  exact ref15_Locate3 b off c _ _ _ _ _ _ x y (hp.p4 hx hy) w hp.cap hx3
set_option maxHeartbeats 4000000 in
set_option maxRecDepth 100000 in
theorem ref16_locate (d : Bool) (v : Int) (A : Option Addr) (n c : Nat) (hn : (n : Int) = szf v) (f g : Nat → Int) (x y : Int) (hx : IsI x) (hy : IsI y) (w : World) (hp : Pts w A n c f g) :
    Calls Tryz.prog 66 #[.agg #[.bool d, .int .i64 v, .slice A n c], .agg #[.int .i64 x, .int .i64 y]] w fun e w' => e = .returned (.int .i64 (locR v f g n x y)) ∧ Below w.heap.size w w' := by
  have HP := Lib.hid hp
  have HX := Lib.hid hx
  have HY := Lib.hid hy
  have HN := Lib.hid hn
  clear hp hx hy hn
  by_cases hv : v = 0
  · subst hv
    obtain rfl : n = 3 := by have : szf 0 = 3 := rfl; have := HN.out; omega
    go_enter Tryz.func66, Tryz.ntmps66
    go_wp2_with fail
    have HB := Lib.hid (show Below w.heap.size w ((w.alloc (.cells #[.bool d, .int .i64 0, .slice A 3 c] 48)).alloc (.cells #[.int .i64 x, .int .i64 y] 23)) from below_al (below_al below_rf))
    refine (ref15_L A c f g x y HX.out HY.out _ ((HP.out.alloc _).alloc _)).mono ?_
    rintro e w2 ⟨rfl, B⟩
    have HB2 := Lib.hid (HB.out.trans (B.mono HB.out.size)); clear B HB
    go_wp2_with fail
    go_ret
    exact ⟨rfl, HB2.out⟩
  · go_enter Tryz.func66, Tryz.ntmps66
    go_wp2_with fail
    have HB := Lib.hid (show Below w.heap.size w ((w.alloc (.cells #[.bool d, .int .i64 v, .slice A n c] 48)).alloc (.cells #[.int .i64 x, .int .i64 y] 23)) from below_al (below_al below_rf))
    have HV := Lib.hid hv; clear hv
    refine (ref14_Locate A n c f g x y HX.out HY.out _ ((HP.out.alloc _).alloc _)).mono ?_
    rintro e w2 ⟨rfl, B⟩
    have HB2 := Lib.hid (HB.out.trans (B.mono HB.out.size)); clear B HB
    go_wp2_with fail
    go_ret
    exact ⟨by unfold locR; rw [if_neg HV.out]; rfl, HB2.out⟩
set_option maxHeartbeats 4000000 in
set_option maxRecDepth 100000 in
theorem ref16_Valid (A : Option Addr) (n c : Nat) (d : Nat → Bool) (v : Nat → Int) (Q : Nat → Option Addr × Nat × Nat) (F G : Nat → Nat → Int) (w : World) (hr : Rgs w A n c d v Q) (hp : RgP w n Q F G) (ho : OkR n v Q) :
    Calls Tryz.prog 38 #[.slice A n c] w fun e w' => e = .returned (.bool (allB (vR v Q F G) n)) ∧ Below w.heap.size w w' := by
  have HR := Lib.hid hr
  have HP := Lib.hid hp
  have HO := Lib.hid ho
  have hcp := hr.cap
  have hmx := hr.max
  have h1 := ho.pos
  have h2 := ho.le
  clear hr ho hp
  unfold maxLen at hmx
  obtain ⟨b, off, rfl, hbl, hc⟩ := HR.out.at_ (by omega)
  have HC := Lib.hid hc; have HBL := Lib.hid hbl; clear hc hbl
  go_enter Tryz.func38, Tryz.ntmps38
  go_wp2_with fail
  refine (ref16_Check _ n c d v Q _ HR.out).mono ?_
  rintro e w2 ⟨⟨z, rfl, hz⟩, B⟩
  obtain rfl : z = 0 := hz.2 HO.out
  have HB2 := Lib.hid B; clear B hz
  go_wp2_with fail
  go_loopw [3] (fun ir wr => ∃ k : Nat, k ≤ n ∧ ir = .int .i64 (k : Int) ∧ allB (vR v Q F G) k = true ∧ Below w.heap.size w wr) (fun i _ => n - (intOf i).toNat)
  case atStart => exact ⟨0, by omega, rfl, rfl, HB2.out⟩
  case round =>
    obtain ⟨k, hk, rfl, hs, hb⟩ := hrel
    have HB := Lib.hid hb; have HS := Lib.hid hs; clear hb hs
    by_cases hlt : k < n
    · have p1 : wr.cell? ⟨b, off + k * 3 + 1, none⟩ = some (.int .i64 (v k)) := (HB.out.cell (p := ⟨b, off + k * 3 + 1, none⟩) HBL.out).trans (HC.out k hlt).2.1
      have p2 : wr.cell? ⟨b, off + k * 3 + 2, none⟩ = some (.slice (Q k).1 (Q k).2.1 (Q k).2.2) := (HB.out.cell (p := ⟨b, off + k * 3 + 2, none⟩) HBL.out).trans (HC.out k hlt).2.2
      have hms := Lib.hid (show n - (intOf (.int .i64 ((k : Int) + 1))).toNat < n - (intOf (.int .i64 (k : Int))).toNat from by simp [intOf]; omega)
      have HQ := Lib.hid (show (((Q k).2.1 : Nat) : Int) = szf (v k) from HO.out.num k hlt)
      have HF := Lib.hid (show vR v Q F G k = false → allB (vR v Q F G) n = false from fun h => by
        cases ha : allB (vR v Q F G) n
        · rfl
        · exact absurd ((allB_iff _ n).1 ha k hlt) (by rw [h]; simp))
      have HPQ := Lib.hid ((HP.out.pts k hlt).below HB.out (Nat.le_refl _))
      have hrg := (HO.out.toOkK.range hlt).1
      by_cases hv : v k = 0
      · have h3 : (Q k).2.1 = 3 := by have := HQ.out; rw [hv] at this; have e : szf 0 = 3 := rfl; omega
        have HPV := Lib.hid (show Calls Tryz.prog 64 #[.slice (Q k).1 (Q k).2.1 (Q k).2.2] wr fun e w' => e = .returned (.bool (vR v Q F G k)) ∧ Below wr.heap.size wr w' from by
          have h := HPQ.out
          unfold vR; rw [hv]; revert h; rw [h3]; intro h; exact ref15_V _ _ _ _ _ h)
        have HV := Lib.hid hv
        clear h3
        go_wp2_with fail
        refine HPV.out.mono ?_
        rintro e w3 ⟨rfl, B⟩
        have HB3 := Lib.hid (HB.out.trans (B.mono HB.out.size)); clear B
        have p1' : w3.cell? ⟨b, off + k * 3 + 1, none⟩ = some (.int .i64 (v k)) := (HB3.out.cell (p := ⟨b, off + k * 3 + 1, none⟩) HBL.out).trans (HC.out k hlt).2.1
        cases hvk : vR v Q F G k
        · have HFF := Lib.hid (HF.out hvk)
          go_wp2_with fail
          go_ret
          exact ⟨congrArg (fun b => Ending.returned (Value.bool b)) HFF.out.symm, HB3.out⟩
        · have HVK := Lib.hid hvk
          go_wp2_with fail
          go_roundw
          case rel => exact ⟨k + 1, hlt, by go_num, by rw [allB, HS.out, HVK.out]; rfl, HB3.out⟩
          case measure => exact hms.out
      · have HPV := Lib.hid (show Calls Tryz.prog 65 #[.slice (Q k).1 (Q k).2.1 (Q k).2.2] wr fun e w' => e = .returned (.bool (vR v Q F G k)) ∧ Below wr.heap.size wr w' from by
          unfold vR validR; rw [if_neg hv]; exact ref14_Valid _ _ _ _ _ _ HPQ.out)
        have HV := Lib.hid hv
        have hv0 : 0 < v k := by omega
        go_wp2_with fail
        refine HPV.out.mono ?_
        rintro e w3 ⟨rfl, B⟩
        have HB3 := Lib.hid (HB.out.trans (B.mono HB.out.size)); clear B
        cases hvk : vR v Q F G k
        · have HFF := Lib.hid (HF.out hvk)
          go_wp2_with fail
          go_ret
          exact ⟨congrArg (fun b => Ending.returned (Value.bool b)) HFF.out.symm, HB3.out⟩
        · have HVK := Lib.hid hvk
          go_wp2_with fail
          go_roundw
          case rel => exact ⟨k + 1, hlt, by go_num, by rw [allB, HS.out, HVK.out]; rfl, HB3.out⟩
          case measure => exact hms.out
    · obtain rfl : k = n := by omega
      go_wp2_with fail
      go_ret
      exact ⟨congrArg (fun b => Ending.returned (Value.bool b)) HS.out.symm, HB.out⟩
end Go.Proofs.YtjdiilkljgljkaaGreatDoor
namespace Go.Proofs.YtjdiilkljgljkaaGreatDoor
set_option linter.unusedVariables false
set_option linter.unusedSimpArgs false
open Go.RowKit Wd

def b2i (b : Bool) : Int := if b then 1 else 0
theorem bit_msk (b : Bool) : bits .and .u64 (msk b) 1 = b2i b := by cases b <;> rfl
theorem b2i_W (b : Bool) : IsW (b2i b) := by cases b <;> (unfold IsW; decide)
set_option maxHeartbeats 4000000 in
theorem mask_Bit (b : Bool) (w : World) :
    Calls Tryz.prog 119 #[.int .u64 (msk b)] w fun e w' => e = .returned (.int .u64 (b2i b)) ∧ w = w' := by
  have hb := bit_msk b
  go_enter Tryz.func119, Tryz.ntmps119
  go_wp2_with fail
  go_ret
  exact ⟨rfl, rfl⟩
/-- the answer of a fence: 2: invalid; 1: a member; 0 -/
def fenA (valid mem : Bool) : Int := if valid then b2i mem else 2
set_option maxHeartbeats 4000000 in
theorem engine_choose (valid mem : Bool) (w : World) :
    Calls Tryz.prog 161 #[.int .u64 (msk valid), .int .i64 (b2i mem), .int .u64 2] w fun e w' => e = .returned (.int .i64 (fenA valid mem)) ∧ Below w.heap.size w w' := by
  have e1 : IntKind.u64.wrap (b2i mem) = b2i mem := by cases mem <;> rfl
  have e2 : IntKind.i64.wrap (selI valid (b2i mem) 2) = fenA valid mem := by cases valid <;> cases mem <;> rfl
  have HW := Lib.hid (b2i_W mem)
  go_enter Tryz.func161, Tryz.ntmps161
  go_wp2_with fail
  refine (mask_Select valid (b2i mem) 2 HW.out (by unfold IsW; decide) _).mono ?_
  rintro e w2 ⟨rfl, rfl⟩
  go_wp2_with fail
  go_ret
  exact ⟨rfl, below_rf⟩
set_option maxHeartbeats 4000000 in
set_option maxRecDepth 100000 in
theorem engine_Fence (A : Option Addr) (n c : Nat) (d : Nat → Bool) (v : Nat → Int) (Q : Nat → Option Addr × Nat × Nat) (F G : Nat → Nat → Int) (x y : Int) (hx : IsI x) (hy : IsI y) (w : World) (hT : TabM w) (hr : Rgs w A n c d v Q) (hp : RgP w n Q F G) (ho : OkR n v Q) :
    Calls Tryz.prog 148 #[.pointer none, .slice A n c, .agg #[.int .i64 x, .int .i64 y]] w fun e w' => e = .returned (.int .i64 (fenA (allB (vR v Q F G) n) (memR d (lR v Q F G x y) n))) ∧ Below w.heap.size w w' := by
  have HT := Lib.hid hT
  have HR := Lib.hid hr
  have HP := Lib.hid hp
  have HO := Lib.hid ho
  have HX := Lib.hid hx
  have HY := Lib.hid hy
  have e1 : IntKind.i64.wrap (b2i (memR d (lR v Q F G x y) n)) = b2i (memR d (lR v Q F G x y) n) := by cases (memR d (lR v Q F G x y) n) <;> rfl
  clear hr ho hT hp hx hy
  go_enter Tryz.func148, Tryz.ntmps148
  go_wp2_with fail
  have HB1 := Lib.hid (show Below w.heap.size w (w.alloc (.cells #[.int .i64 x, .int .i64 y] 23)) from below_al below_rf)
  have FP := Lib.hid (Bx.new w #[.int .i64 x, .int .i64 y] 23)
  generalize w.alloc (.cells #[.int .i64 x, .int .i64 y] 23) = w1 at *
  refine (fence_Valid A n c d v Q F G _ (HT.out.below HB1.out (Nat.le_refl _)) (HR.out.below HB1.out (Nat.le_refl _)) (HP.out.below HB1.out (Nat.le_refl _)) HO.out).mono ?_
  rintro e w2 ⟨rfl, B⟩
  have FP2 := Lib.hid (FP.out.below B (Nat.le_refl _))
  have HB2 := Lib.hid (HB1.out.trans (B.mono HB1.out.size)); clear B HB1 FP
  have p0 := FP2.out.cell 0 (v := .int .i64 x) rfl
  have p1 := FP2.out.cell 1 (v := .int .i64 y) rfl
  go_wp2_with fail
  clear p0 p1
  refine (fence_Member A n c d v Q F G x y HX.out HY.out _ (HT.out.below HB2.out (Nat.le_refl _)) (HR.out.below HB2.out (Nat.le_refl _)) (HP.out.below HB2.out (Nat.le_refl _)) HO.out).mono ?_
  rintro e w3 ⟨rfl, B⟩
  have HB3 := Lib.hid (HB2.out.trans (B.mono HB2.out.size)); clear B HB2
  go_wp2_with fail
  refine (mask_Bit _ _).mono ?_
  rintro e w4 ⟨rfl, rfl⟩
  go_wp2_with fail
  refine (engine_choose _ _ _).mono ?_
  rintro e w5 ⟨rfl, B⟩
  have HB4 := Lib.hid (HB3.out.trans (B.mono HB3.out.size)); clear B HB3
  go_wp2_with fail
  go_ret
  exact ⟨rfl, HB4.out⟩
end Go.Proofs.YtjdiilkljgljkaaGreatDoor
