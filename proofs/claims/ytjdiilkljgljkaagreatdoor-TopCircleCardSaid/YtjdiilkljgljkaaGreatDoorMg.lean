/- Contracts of the reference of layer 7: the lifted determinant, the side. A region that draws its order within the body of a range over a function (and anywhere inside the wide fence): values in whatever order, then the operations that wait for all of them. The words at the head of the program, as lists of signs: what the rows ask of them. Of a list of laid variables the rest is laid, too. -/
import Derived.Test.YtjdiilkljgljkaaGreatDoorMf
import Derived.Test.YtjdiilkljgljkaaGreatDoorMd
import Derived.Deep.DeepCutAuto
import Derived.Test.YtjdiilkljgljkaaGreatDoorMb
import Derived.OrdersIn
import Derived.ControlIn
import Derived.TacticsIn
import Derived.RangeFuncCalls
import Derived.Scope
import Derived.Test.YtjdiilkljgljkaaGreatDoorCards
import Derived.Test.YtjdiilkljgljkaaGreatDoorTie
import Derived.WalkKit
import Derived.ProofKit
import Derived.OpenShut
import Derived.Lib.LaidTab
namespace Go.Proofs.YtjdiilkljgljkaaGreatDoor
set_option linter.unusedVariables false
set_option linter.unusedSimpArgs false
open Go.RowKit Wd

set_option maxHeartbeats 1000000 in
theorem ref7_lift (ax ay : Int) (h1 : IsI ax) (h2 : IsI ay) (w : World) :
    Calls Tryz.prog 33 #[.agg #[.int .i64 ax, .int .i64 ay]] w fun e w' => (∃ A k c, e = .returned (.agg #[.int .i64 (sg (ax * ax + ay * ay)), .slice A k c]) ∧ k ≤ 9 ∧ Nm w' A k c (ax * ax + ay * ay)) ∧ Below w.heap.size w w' := by
  have HB0 := Lib.hid (Below.refl w.heap.size w)
  go_enter Tryz.func33, Tryz.ntmps33
  go_wp2_with fail
  have B : Below w.heap.size w ((w.alloc (.cells #[.int .i64 ax, .int .i64 ay] 23)).alloc (.cells #[.int .i64 0, .slice none 0 0] 41)) := ((HB0.out.alloc HB0.out.size _).alloc (HB0.out.alloc HB0.out.size _).size _)
  have C : Below w.heap.size w ((w.alloc (.cells #[.int .i64 ax, .int .i64 ay] 23)).alloc (.cells #[.int .i64 0, .slice none 0 0] 41)) := (((Below.refl w.heap.size w).alloc (Nat.le_refl _) _).alloc (by simp; try omega) _)
  have X0 : Bx ((w.alloc (.cells #[.int .i64 ax, .int .i64 ay] 23)).alloc (.cells #[.int .i64 0, .slice none 0 0] 41)) (w.heap.size) #[.int .i64 ax, .int .i64 ay] 23 := by simpa using ((Bx.new w #[.int .i64 ax, .int .i64 ay] 23).alloc _)
  have X1 : Bx ((w.alloc (.cells #[.int .i64 ax, .int .i64 ay] 23)).alloc (.cells #[.int .i64 0, .slice none 0 0] 41)) (w.heap.size + 1) #[.int .i64 0, .slice none 0 0] 41 := by simpa using (Bx.new (w.alloc (.cells #[.int .i64 ax, .int .i64 ay] 23)) #[.int .i64 0, .slice none 0 0] 41)
  have HB1 := Lib.hid B
  have FP_1 := Lib.hid X0
  have FR_1 := Lib.hid X1
  clear B C X0 X1 HB0 
  generalize ((w.alloc (.cells #[.int .i64 ax, .int .i64 ay] 23)).alloc (.cells #[.int .i64 0, .slice none 0 0] 41)) = w1 at *
  skip
  refine (ref3_Int ax h1 _).mono ?_
  rintro e w2 ⟨⟨A1, k1, c1, rfl, b1, N1⟩, B⟩
  have HB2 := Lib.hid (HB1.out.trans (B.mono HB1.out.size))
  have FP_2 := Lib.hid (FP_1.out.below B (Nat.le_refl _))
  have FR_2 := Lib.hid (FR_1.out.below B (Nat.le_refl _))
  have FN1_2 := Lib.hid N1
  clear B N1 HB1 FP_1 FR_1
  have vP0 := FP_2.out.cell 0 (v := .int .i64 ax) rfl
  have vP1 := FP_2.out.cell 1 (v := .int .i64 ay) rfl
  have vlP := FP_2.out.lt
  go_wp2_with fail
  clear vP0 vP1 vlP
  have nb2 := FR_2.out.lt
  have B : Below w.heap.size w (w2.alloc (.cells #[.int .i64 (sg (ax)), .slice A1 k1 c1] 41)) := (HB2.out.alloc HB2.out.size _)
  have C : Below w2.heap.size w2 (w2.alloc (.cells #[.int .i64 (sg (ax)), .slice A1 k1 c1] 41)) := ((Below.refl w2.heap.size w2).alloc (Nat.le_refl _) _)
  have X0 : Bx (w2.alloc (.cells #[.int .i64 (sg (ax)), .slice A1 k1 c1] 41)) (w2.heap.size) #[.int .i64 (sg (ax)), .slice A1 k1 c1] 41 := by simpa using (Bx.new w2 #[.int .i64 (sg (ax)), .slice A1 k1 c1] 41)
  have FP_3 := Lib.hid (FP_2.out.below C (Nat.le_refl _))
  have FR_3 := Lib.hid (FR_2.out.below C (Nat.le_refl _))
  have FN1_3 := Lib.hid (FN1_2.out.below C (Nat.le_refl _))
  have HB3 := Lib.hid B
  have FX_3 := Lib.hid X0
  clear B C X0 HB2 FP_2 FR_2 FN1_2
  generalize (w2.alloc (.cells #[.int .i64 (sg (ax)), .slice A1 k1 c1] 41)) = w3 at *
  skip
  refine (ref3_Int ay h2 _).mono ?_
  rintro e w4 ⟨⟨A2, k2, c2, rfl, b2, N2⟩, B⟩
  have HB4 := Lib.hid (HB3.out.trans (B.mono HB3.out.size))
  have FP_4 := Lib.hid (FP_3.out.below B (Nat.le_refl _))
  have FR_4 := Lib.hid (FR_3.out.below B (Nat.le_refl _))
  have FN1_4 := Lib.hid (FN1_3.out.below B (Nat.le_refl _))
  have FX_4 := Lib.hid (FX_3.out.below B (Nat.le_refl _))
  have FN2_4 := Lib.hid N2
  clear B N2 HB3 FP_3 FR_3 FN1_3 FX_3
  go_wp2_with fail
  have nb4 := FR_4.out.lt
  have B : Below w.heap.size w (w4.alloc (.cells #[.int .i64 (sg (ay)), .slice A2 k2 c2] 41)) := (HB4.out.alloc HB4.out.size _)
  have C : Below w4.heap.size w4 (w4.alloc (.cells #[.int .i64 (sg (ay)), .slice A2 k2 c2] 41)) := ((Below.refl w4.heap.size w4).alloc (Nat.le_refl _) _)
  have X0 : Bx (w4.alloc (.cells #[.int .i64 (sg (ay)), .slice A2 k2 c2] 41)) (w4.heap.size) #[.int .i64 (sg (ay)), .slice A2 k2 c2] 41 := by simpa using (Bx.new w4 #[.int .i64 (sg (ay)), .slice A2 k2 c2] 41)
  have FP_5 := Lib.hid (FP_4.out.below C (Nat.le_refl _))
  have FR_5 := Lib.hid (FR_4.out.below C (Nat.le_refl _))
  have FN1_5 := Lib.hid (FN1_4.out.below C (Nat.le_refl _))
  have FX_5 := Lib.hid (FX_4.out.below C (Nat.le_refl _))
  have FN2_5 := Lib.hid (FN2_4.out.below C (Nat.le_refl _))
  have HB5 := Lib.hid B
  have FY_5 := Lib.hid X0
  clear B C X0 HB4 FP_4 FR_4 FN1_4 FX_4 FN2_4
  generalize (w4.alloc (.cells #[.int .i64 (sg (ay)), .slice A2 k2 c2] 41)) = w5 at *
  have RB5 := Lib.hid (below_drew0 w5)
  have QS5 := Lib.hid (show w5.cell? ⟨w2.heap.size, 0, none⟩ = some (.int .i64 (sg ax)) ∧ w5.cell? ⟨w2.heap.size, 1, none⟩ = some (.slice A1 k1 c1) ∧ w5.cell? ⟨w4.heap.size, 0, none⟩ = some (.int .i64 (sg ay)) ∧ w5.cell? ⟨w4.heap.size, 1, none⟩ = some (.slice A2 k2 c2) from ⟨FX_5.out.cell 0 (v := .int .i64 (sg ax)) rfl, FX_5.out.cell 1 (v := .slice A1 k1 c1) rfl, FY_5.out.cell 0 (v := .int .i64 (sg ay)) rfl, FY_5.out.cell 1 (v := .slice A2 k2 c2) rfl⟩)
  have QF5 := Lib.hid (show ∀ w', Below w5.heap.size w5 w' → w'.cell? ⟨w2.heap.size, 0, none⟩ = some (.int .i64 (sg ax)) ∧ w'.cell? ⟨w2.heap.size, 1, none⟩ = some (.slice A1 k1 c1) ∧ w'.cell? ⟨w4.heap.size, 0, none⟩ = some (.int .i64 (sg ay)) ∧ w'.cell? ⟨w4.heap.size, 1, none⟩ = some (.slice A2 k2 c2) from fun w' hb => ⟨(FX_5.out.below hb (Nat.le_refl _)).cell 0 (v := .int .i64 (sg ax)) rfl, (FX_5.out.below hb (Nat.le_refl _)).cell 1 (v := .slice A1 k1 c1) rfl, (FY_5.out.below hb (Nat.le_refl _)).cell 0 (v := .int .i64 (sg ay)) rfl, (FY_5.out.below hb (Nat.le_refl _)).cell 1 (v := .slice A2 k2 c2) rfl⟩)
  go_region_held3 (fun w' => w'.cell? ⟨w2.heap.size, 0, none⟩ = some (.int .i64 (sg ax)) ∧ w'.cell? ⟨w2.heap.size, 1, none⟩ = some (.slice A1 k1 c1) ∧ w'.cell? ⟨w4.heap.size, 0, none⟩ = some (.int .i64 (sg ay)) ∧ w'.cell? ⟨w4.heap.size, 1, none⟩ = some (.slice A2 k2 c2)) (first | with_reducible exact QF5.out _ RB8.out | with_reducible exact QF5.out _ RB7.out | with_reducible exact QF5.out _ RB6.out | with_reducible exact QS5.out | with_reducible exact QF5.out _ RB5.out | with_reducible exact ⟨keep_set (keep_set ((QF5.out _ RB8.out).1) (by simp <;> omega)) (by simp <;> omega), keep_set (keep_set ((QF5.out _ RB8.out).2.1) (by simp <;> omega)) (by simp <;> omega), keep_set (keep_set ((QF5.out _ RB8.out).2.2.1) (by simp <;> omega)) (by simp <;> omega), keep_set (keep_set ((QF5.out _ RB8.out).2.2.2) (by simp <;> omega)) (by simp <;> omega)⟩) (first
      | (go_at_call 34; have := RB7; clear this; refine (ref3_Add P1 P2 p1 g1 p2 g2 _ _ _ RM1_7.out RM2_7.out (by omega) (by omega)).mono ?_; rintro e w8 ⟨⟨P3, p3, g3, rfl, d3, M3⟩, B⟩; have RB8 := Lib.hid (RB7.out.trans (B.mono RB7.out.size)); have RM1_8 := Lib.hid (RM1_7.out.below B (Nat.le_refl _)); have RM2_8 := Lib.hid (RM2_7.out.below B (Nat.le_refl _)); have RM3_8 := Lib.hid M3; clear B M3; have q0 := (FR_5.out.below RB8.out (Nat.le_refl _)).cell 0 (v := .int .i64 0) rfl; have q1 := (FR_5.out.below RB8.out (Nat.le_refl _)).cell 1 (v := .slice none 0 0) rfl; have z0 := (FR_5.out.below RB8.out (Nat.le_refl _)).free 0; have z1 := (FR_5.out.below RB8.out (Nat.le_refl _)).free 1)
      | (go_at_call 32; have := RB6; clear this; refine (ref3_Mul A2 A2 k2 c2 k2 c2 _ _ _ (FN2_5.out.below RB6.out (Nat.le_refl _)) (FN2_5.out.below RB6.out (Nat.le_refl _)) (by omega) (by omega)).mono ?_; rintro e w7 ⟨⟨P2, p2, g2, rfl, d2, M2⟩, B⟩; have RB7 := Lib.hid (RB6.out.trans (B.mono RB6.out.size)); have RM1_7 := Lib.hid (RM1_6.out.below B (Nat.le_refl _)); have RM2_7 := Lib.hid M2; clear B M2)
      | (go_at_call 32; have := RB5; clear this; refine (ref3_Mul A1 A1 k1 c1 k1 c1 _ _ _ (FN1_5.out.below RB5.out (Nat.le_refl _)) (FN1_5.out.below RB5.out (Nat.le_refl _)) (by omega) (by omega)).mono ?_; rintro e w6 ⟨⟨P1, p1, g1, rfl, d1, M1⟩, B⟩; have RB6 := Lib.hid (RB5.out.trans (B.mono RB5.out.size)); have RM1_6 := Lib.hid M1; clear B M1))
  have FP_8 := Lib.hid (FP_5.out.below RB8.out (Nat.le_refl _))
  have FR_8 := Lib.hid (FR_5.out.below RB8.out (Nat.le_refl _))
  have FN1_8 := Lib.hid (FN1_5.out.below RB8.out (Nat.le_refl _))
  have FX_8 := Lib.hid (FX_5.out.below RB8.out (Nat.le_refl _))
  have FN2_8 := Lib.hid (FN2_5.out.below RB8.out (Nat.le_refl _))
  have FY_8 := Lib.hid (FY_5.out.below RB8.out (Nat.le_refl _))
  have HB8 := Lib.hid (HB5.out.trans (RB8.out.mono HB5.out.size))
  clear HB5 FP_5 FR_5 FN1_5 FX_5 FN2_5 FY_5
  go_wp2_with fail
  have r0 := FR_8.out
  have r1 := r0.set 0 (.int .i64 (sg (ax * ax + ay * ay)))
  refine bodyPost_ret (v := .agg #[.int .i64 (sg (ax * ax + ay * ay)), .slice P3 p3 g3]) (by simp [results, Tryz.results33, go_sem, q0, q1]) rfl ⟨⟨P3, p3, g3, rfl, by omega, ((RM3_8.out.setB r0 (by decide)).setB r1 (by decide))⟩, ?_⟩
  exact ((HB8.out.setCell (p := ⟨w.heap.size + 1, 0, none⟩) (by simp <;> omega) _).setCell (p := ⟨w.heap.size + 1, 1, none⟩) (by simp <;> omega) _)

/-- a number lies in a box of its own -/
def CutN (w : World) (x : Int) (K : Nat) (s9 : Value) (wx : World) : Prop := ∃ (b : Nat) (A : Option Addr) (k c : Nat),
  s9 = .pointer (some ⟨b, 0, none⟩) ∧ w.heap.size ≤ b ∧ Bx wx b #[.int .i64 (sg x), .slice A k c] 41 ∧ k ≤ K ∧ Nm wx A k c x ∧ Below w.heap.size w wx
set_option maxHeartbeats 4000000 in
theorem ref7_Value (ax ay bx b_ cx cy dx dy : Int) (hp : P4 ax ay bx b_ cx cy dx dy) (w : World) :
    Calls Tryz.prog 13 #[.agg #[.int .i64 ax, .int .i64 ay], .agg #[.int .i64 bx, .int .i64 b_], .agg #[.int .i64 cx, .int .i64 cy], .agg #[.int .i64 dx, .int .i64 dy]] w fun e w' => (∃ A k c, e = .returned (.agg #[.int .i64 (sg (circ ax ay bx b_ cx cy dx dy)), .slice A k c]) ∧ k ≤ 22 ∧ Nm w' A k c (circ ax ay bx b_ cx cy dx dy)) ∧ Below w.heap.size w w' := by
  have HB0 := Lib.hid (Below.refl w.heap.size w)
  go_enter Tryz.func13, Tryz.ntmps13
  go_wp2_with fail
  have B : Below w.heap.size w (((((w.alloc (.cells #[.int .i64 ax, .int .i64 ay] 23)).alloc (.cells #[.int .i64 bx, .int .i64 b_] 23)).alloc (.cells #[.int .i64 cx, .int .i64 cy] 23)).alloc (.cells #[.int .i64 dx, .int .i64 dy] 23)).alloc (.cells #[.int .i64 0, .slice none 0 0] 41)) := (((((HB0.out.alloc HB0.out.size _).alloc (HB0.out.alloc HB0.out.size _).size _).alloc ((HB0.out.alloc HB0.out.size _).alloc (HB0.out.alloc HB0.out.size _).size _).size _).alloc (((HB0.out.alloc HB0.out.size _).alloc (HB0.out.alloc HB0.out.size _).size _).alloc ((HB0.out.alloc HB0.out.size _).alloc (HB0.out.alloc HB0.out.size _).size _).size _).size _).alloc ((((HB0.out.alloc HB0.out.size _).alloc (HB0.out.alloc HB0.out.size _).size _).alloc ((HB0.out.alloc HB0.out.size _).alloc (HB0.out.alloc HB0.out.size _).size _).size _).alloc (((HB0.out.alloc HB0.out.size _).alloc (HB0.out.alloc HB0.out.size _).size _).alloc ((HB0.out.alloc HB0.out.size _).alloc (HB0.out.alloc HB0.out.size _).size _).size _).size _).size _)
  have C : Below w.heap.size w (((((w.alloc (.cells #[.int .i64 ax, .int .i64 ay] 23)).alloc (.cells #[.int .i64 bx, .int .i64 b_] 23)).alloc (.cells #[.int .i64 cx, .int .i64 cy] 23)).alloc (.cells #[.int .i64 dx, .int .i64 dy] 23)).alloc (.cells #[.int .i64 0, .slice none 0 0] 41)) := ((((((Below.refl w.heap.size w).alloc (Nat.le_refl _) _).alloc (by simp; try omega) _).alloc (by simp; try omega) _).alloc (by simp; try omega) _).alloc (by simp; try omega) _)
  have X0 : Bx (((((w.alloc (.cells #[.int .i64 ax, .int .i64 ay] 23)).alloc (.cells #[.int .i64 bx, .int .i64 b_] 23)).alloc (.cells #[.int .i64 cx, .int .i64 cy] 23)).alloc (.cells #[.int .i64 dx, .int .i64 dy] 23)).alloc (.cells #[.int .i64 0, .slice none 0 0] 41)) (w.heap.size) #[.int .i64 ax, .int .i64 ay] 23 := by simpa using (((((Bx.new w #[.int .i64 ax, .int .i64 ay] 23).alloc _).alloc _).alloc _).alloc _)
  have X1 : Bx (((((w.alloc (.cells #[.int .i64 ax, .int .i64 ay] 23)).alloc (.cells #[.int .i64 bx, .int .i64 b_] 23)).alloc (.cells #[.int .i64 cx, .int .i64 cy] 23)).alloc (.cells #[.int .i64 dx, .int .i64 dy] 23)).alloc (.cells #[.int .i64 0, .slice none 0 0] 41)) (w.heap.size + 1) #[.int .i64 bx, .int .i64 b_] 23 := by simpa using ((((Bx.new (w.alloc (.cells #[.int .i64 ax, .int .i64 ay] 23)) #[.int .i64 bx, .int .i64 b_] 23).alloc _).alloc _).alloc _)
  have X2 : Bx (((((w.alloc (.cells #[.int .i64 ax, .int .i64 ay] 23)).alloc (.cells #[.int .i64 bx, .int .i64 b_] 23)).alloc (.cells #[.int .i64 cx, .int .i64 cy] 23)).alloc (.cells #[.int .i64 dx, .int .i64 dy] 23)).alloc (.cells #[.int .i64 0, .slice none 0 0] 41)) (w.heap.size + 1 + 1) #[.int .i64 cx, .int .i64 cy] 23 := by simpa using (((Bx.new ((w.alloc (.cells #[.int .i64 ax, .int .i64 ay] 23)).alloc (.cells #[.int .i64 bx, .int .i64 b_] 23)) #[.int .i64 cx, .int .i64 cy] 23).alloc _).alloc _)
  have X3 : Bx (((((w.alloc (.cells #[.int .i64 ax, .int .i64 ay] 23)).alloc (.cells #[.int .i64 bx, .int .i64 b_] 23)).alloc (.cells #[.int .i64 cx, .int .i64 cy] 23)).alloc (.cells #[.int .i64 dx, .int .i64 dy] 23)).alloc (.cells #[.int .i64 0, .slice none 0 0] 41)) (w.heap.size + 1 + 1 + 1) #[.int .i64 dx, .int .i64 dy] 23 := by simpa using ((Bx.new (((w.alloc (.cells #[.int .i64 ax, .int .i64 ay] 23)).alloc (.cells #[.int .i64 bx, .int .i64 b_] 23)).alloc (.cells #[.int .i64 cx, .int .i64 cy] 23)) #[.int .i64 dx, .int .i64 dy] 23).alloc _)
  have X4 : Bx (((((w.alloc (.cells #[.int .i64 ax, .int .i64 ay] 23)).alloc (.cells #[.int .i64 bx, .int .i64 b_] 23)).alloc (.cells #[.int .i64 cx, .int .i64 cy] 23)).alloc (.cells #[.int .i64 dx, .int .i64 dy] 23)).alloc (.cells #[.int .i64 0, .slice none 0 0] 41)) (w.heap.size + 1 + 1 + 1 + 1) #[.int .i64 0, .slice none 0 0] 41 := by simpa using (Bx.new ((((w.alloc (.cells #[.int .i64 ax, .int .i64 ay] 23)).alloc (.cells #[.int .i64 bx, .int .i64 b_] 23)).alloc (.cells #[.int .i64 cx, .int .i64 cy] 23)).alloc (.cells #[.int .i64 dx, .int .i64 dy] 23)) #[.int .i64 0, .slice none 0 0] 41)
  have HB1 := Lib.hid B
  have FP_1 := Lib.hid X0
  have FQ_1 := Lib.hid X1
  have FT_1 := Lib.hid X2
  have FV_1 := Lib.hid X3
  have FR_1 := Lib.hid X4
  clear B C X0 X1 X2 X3 X4 HB0 
  generalize (((((w.alloc (.cells #[.int .i64 ax, .int .i64 ay] 23)).alloc (.cells #[.int .i64 bx, .int .i64 b_] 23)).alloc (.cells #[.int .i64 cx, .int .i64 cy] 23)).alloc (.cells #[.int .i64 dx, .int .i64 dy] 23)).alloc (.cells #[.int .i64 0, .slice none 0 0] 41)) = w1 at *
  have rl0 := FR_1.out.lt
  go_upto_region 1 with (fail)
  have M0 := trivial
  have QF := Lib.hid (show ∀ w', Below w1.heap.size w1 w' → w'.cell? ⟨w.heap.size, 0, none⟩ = some (.int .i64 ax) ∧ w'.cell? ⟨w.heap.size, 1, none⟩ = some (.int .i64 ay) ∧ w'.cell? ⟨w.heap.size + 1, 0, none⟩ = some (.int .i64 bx) ∧ w'.cell? ⟨w.heap.size + 1, 1, none⟩ = some (.int .i64 b_) ∧ w'.cell? ⟨w.heap.size + 1 + 1, 0, none⟩ = some (.int .i64 cx) ∧ w'.cell? ⟨w.heap.size + 1 + 1, 1, none⟩ = some (.int .i64 cy) ∧ w'.cell? ⟨w.heap.size + 1 + 1 + 1, 0, none⟩ = some (.int .i64 dx) ∧ w'.cell? ⟨w.heap.size + 1 + 1 + 1, 1, none⟩ = some (.int .i64 dy) from fun w' hb => ⟨(FP_1.out.below hb (Nat.le_refl _)).cell 0 (v := .int .i64 ax) rfl, (FP_1.out.below hb (Nat.le_refl _)).cell 1 (v := .int .i64 ay) rfl, (FQ_1.out.below hb (Nat.le_refl _)).cell 0 (v := .int .i64 bx) rfl, (FQ_1.out.below hb (Nat.le_refl _)).cell 1 (v := .int .i64 b_) rfl, (FT_1.out.below hb (Nat.le_refl _)).cell 0 (v := .int .i64 cx) rfl, (FT_1.out.below hb (Nat.le_refl _)).cell 1 (v := .int .i64 cy) rfl, (FV_1.out.below hb (Nat.le_refl _)).cell 0 (v := .int .i64 dx) rfl, (FV_1.out.below hb (Nat.le_refl _)).cell 1 (v := .int .i64 dy) rfl⟩)
  go_cut [9] (fun s9 wx => CutN w1 ((ax * ax + ay * ay) * det bx b_ cx cy dx dy) 20 s9 wx)
  case first =>
    go_region_held3 (fun w' => w'.cell? ⟨w.heap.size, 0, none⟩ = some (.int .i64 ax) ∧ w'.cell? ⟨w.heap.size, 1, none⟩ = some (.int .i64 ay) ∧ w'.cell? ⟨w.heap.size + 1, 0, none⟩ = some (.int .i64 bx) ∧ w'.cell? ⟨w.heap.size + 1, 1, none⟩ = some (.int .i64 b_) ∧ w'.cell? ⟨w.heap.size + 1 + 1, 0, none⟩ = some (.int .i64 cx) ∧ w'.cell? ⟨w.heap.size + 1 + 1, 1, none⟩ = some (.int .i64 cy) ∧ w'.cell? ⟨w.heap.size + 1 + 1 + 1, 0, none⟩ = some (.int .i64 dx) ∧ w'.cell? ⟨w.heap.size + 1 + 1 + 1, 1, none⟩ = some (.int .i64 dy)) (first | (with_reducible refine QF.out _ ?_; (repeat (first | (with_reducible refine below_st ?_ ?_; (focus (first | with_reducible assumption | with_reducible exact Nat.le_refl _ | (simp; done) | omega | (simp <;> omega)))) | with_reducible refine below_tr ?_ C4.out | with_reducible refine below_tr ?_ C3.out | with_reducible refine below_tr ?_ C2.out | with_reducible refine below_al ?_ | with_reducible exact below_rf | with_reducible refine below_dr ?_)); done) | (with_reducible refine QF.out _ ?_; (repeat (first | (with_reducible refine below_st ?_ ?_; (focus (first | with_reducible assumption | with_reducible exact Nat.le_refl _ | (simp; done) | omega | (simp <;> omega)))) | with_reducible refine below_tr ?_ C3.out | with_reducible refine below_tr ?_ C2.out | with_reducible refine below_al ?_ | with_reducible exact below_rf | with_reducible refine below_dr ?_)); done) | (with_reducible refine QF.out _ ?_; (repeat (first | (with_reducible refine below_st ?_ ?_; (focus (first | with_reducible assumption | with_reducible exact Nat.le_refl _ | (simp; done) | omega | (simp <;> omega)))) | with_reducible refine below_tr ?_ C2.out | with_reducible refine below_al ?_ | with_reducible exact below_rf | with_reducible refine below_dr ?_)); done) | (with_reducible refine QF.out _ ?_; (repeat (first | (with_reducible refine below_st ?_ ?_; (focus (first | with_reducible assumption | with_reducible exact Nat.le_refl _ | (simp; done) | omega | (simp <;> omega)))) | with_reducible refine below_al ?_ | with_reducible exact below_rf | with_reducible refine below_dr ?_)); done)) (first
          | (go_at_call 32; clear M2; have M3 := trivial; refine (ref3_Mul P1 P2 p1 g1 p2 g2 _ _ _ (fwd_nm GL.out (by (repeat (first | with_reducible exact below_rf | with_reducible refine below_al ?_ | with_reducible refine below_dr ?_)))) (fwd_nm GD.out (by (repeat (first | with_reducible exact below_rf | with_reducible refine below_al ?_ | with_reducible refine below_dr ?_)))) (by omega) (by omega)).mono ?_; rintro e w4 ⟨⟨P3, p3, g3, rfl, d3, M3⟩, B⟩; have C4 := Lib.hid B; clear B; have hs4 : w1.heap.size ≤ w4.heap.size := Below.size (B := w1.heap.size) (by (repeat (first | (with_reducible refine below_st ?_ ?_; (focus (first | with_reducible assumption | with_reducible exact Nat.le_refl _ | (simp; done) | omega | (simp <;> omega)))) | with_reducible refine below_tr ?_ C4.out | with_reducible refine below_tr ?_ C3.out | with_reducible refine below_tr ?_ C2.out | with_reducible refine below_al ?_ | with_reducible exact below_rf | with_reducible refine below_dr ?_))); have GL_ := Lib.hid (fwd_nm (w' := w4) GL.out (by (repeat (first | with_reducible exact below_rf | with_reducible refine below_tr ?_ C4.out | with_reducible refine below_al ?_ | with_reducible refine below_dr ?_)))); clear GL; have GL := Lib.hid GL_.out; clear GL_; have GD_ := Lib.hid (fwd_nm (w' := w4) GD.out (by (repeat (first | with_reducible exact below_rf | with_reducible refine below_tr ?_ C4.out | with_reducible refine below_al ?_ | with_reducible refine below_dr ?_)))); clear GD; have GD := Lib.hid GD_.out; clear GD_; have GM := Lib.hid M3; clear M3; (try (refine have_then (T := Bx w4 (w1.heap.size) #[.int .i64 0, .slice none 0 0] 41) ?_ (fun y4_0_0 => ?_); (focus ((repeat (first | (with_reducible refine bx_new ?_; (focus (first | with_reducible rfl | (simp; done)))) | with_reducible refine bx_tr ?_ C4.out | with_reducible refine bx_tr ?_ C3.out | with_reducible refine bx_tr ?_ C2.out | with_reducible refine bx_set2 (z0 := .slice none 0 0) (z1 := .slice none 0 0) ?_ | with_reducible refine bx_set2 (z0 := .int .i64 0) (z1 := .slice none 0 0) ?_ | with_reducible refine bx_set4 (z0 := .int .i64 0) (z1 := .slice none 0 0) (z2 := .int .i64 0) (z3 := .slice none 0 0) ?_ | (with_reducible refine bx_ot ?_ ?_; (focus (first | with_reducible assumption | with_reducible exact Nat.le_refl _ | (simp; done) | omega | (simp <;> omega)))) | with_reducible refine bx_al ?_ | with_reducible refine bx_dr ?_)); done)); have y4_0_0c0 := y4_0_0.cell 0 (v := .int .i64 0) rfl; have y4_0_0f0 := y4_0_0.free 0; have y4_0_0c1 := y4_0_0.cell 1 (v := .slice none 0 0) rfl; have y4_0_0f1 := y4_0_0.free 1; have y4_0_0l := y4_0_0.lt; have y4_0_0n := Nat.ne_of_lt y4_0_0l; have y4_0_0m := Nat.ne_of_gt y4_0_0l; have y4_0_0h := Lib.hid y4_0_0; clear y4_0_0)); (try (refine have_then (T := Bx w4 (w2.heap.size) #[.int .i64 0, .slice none 0 0] 41) ?_ (fun y4_1_0 => ?_); (focus ((repeat (first | (with_reducible refine bx_new ?_; (focus (first | with_reducible rfl | (simp; done)))) | with_reducible refine bx_tr ?_ C4.out | with_reducible refine bx_tr ?_ C3.out | with_reducible refine bx_tr ?_ C2.out | with_reducible refine bx_set2 (z0 := .slice none 0 0) (z1 := .slice none 0 0) ?_ | with_reducible refine bx_set2 (z0 := .int .i64 0) (z1 := .slice none 0 0) ?_ | with_reducible refine bx_set4 (z0 := .int .i64 0) (z1 := .slice none 0 0) (z2 := .int .i64 0) (z3 := .slice none 0 0) ?_ | (with_reducible refine bx_ot ?_ ?_; (focus (first | with_reducible assumption | with_reducible exact Nat.le_refl _ | (simp; done) | omega | (simp <;> omega)))) | with_reducible refine bx_al ?_ | with_reducible refine bx_dr ?_)); done)); have y4_1_0c0 := y4_1_0.cell 0 (v := .int .i64 0) rfl; have y4_1_0f0 := y4_1_0.free 0; have y4_1_0c1 := y4_1_0.cell 1 (v := .slice none 0 0) rfl; have y4_1_0f1 := y4_1_0.free 1; have y4_1_0l := y4_1_0.lt; have y4_1_0n := Nat.ne_of_lt y4_1_0l; have y4_1_0m := Nat.ne_of_gt y4_1_0l; have y4_1_0h := Lib.hid y4_1_0; clear y4_1_0)); (try (refine have_then (T := Bx w4 (w3.heap.size) #[.int .i64 0, .slice none 0 0] 41) ?_ (fun y4_2_0 => ?_); (focus ((repeat (first | (with_reducible refine bx_new ?_; (focus (first | with_reducible rfl | (simp; done)))) | with_reducible refine bx_tr ?_ C4.out | with_reducible refine bx_tr ?_ C3.out | with_reducible refine bx_tr ?_ C2.out | with_reducible refine bx_set2 (z0 := .slice none 0 0) (z1 := .slice none 0 0) ?_ | with_reducible refine bx_set2 (z0 := .int .i64 0) (z1 := .slice none 0 0) ?_ | with_reducible refine bx_set4 (z0 := .int .i64 0) (z1 := .slice none 0 0) (z2 := .int .i64 0) (z3 := .slice none 0 0) ?_ | (with_reducible refine bx_ot ?_ ?_; (focus (first | with_reducible assumption | with_reducible exact Nat.le_refl _ | (simp; done) | omega | (simp <;> omega)))) | with_reducible refine bx_al ?_ | with_reducible refine bx_dr ?_)); done)); have y4_2_0c0 := y4_2_0.cell 0 (v := .int .i64 0) rfl; have y4_2_0f0 := y4_2_0.free 0; have y4_2_0c1 := y4_2_0.cell 1 (v := .slice none 0 0) rfl; have y4_2_0f1 := y4_2_0.free 1; have y4_2_0l := y4_2_0.lt; have y4_2_0n := Nat.ne_of_lt y4_2_0l; have y4_2_0m := Nat.ne_of_gt y4_2_0l; have y4_2_0h := Lib.hid y4_2_0; clear y4_2_0)))
          | (go_at_call 31; clear M1; have M2 := trivial; refine (ref6_Value bx b_ cx cy dx dy (show P3 bx b_ cx cy dx dy from ⟨hp.c, hp.d, hp.e, hp.f, hp.g, hp.h⟩) _).mono ?_; rintro e w3 ⟨⟨P2, p2, g2, rfl, d2, M2⟩, B⟩; have C3 := Lib.hid B; clear B; have hs3 : w1.heap.size ≤ w3.heap.size := Below.size (B := w1.heap.size) (by (repeat (first | (with_reducible refine below_st ?_ ?_; (focus (first | with_reducible assumption | with_reducible exact Nat.le_refl _ | (simp; done) | omega | (simp <;> omega)))) | with_reducible refine below_tr ?_ C3.out | with_reducible refine below_tr ?_ C2.out | with_reducible refine below_al ?_ | with_reducible exact below_rf | with_reducible refine below_dr ?_))); have GL_ := Lib.hid (fwd_nm (w' := w3) GL.out (by (repeat (first | with_reducible exact below_rf | with_reducible refine below_tr ?_ C3.out | with_reducible refine below_al ?_ | with_reducible refine below_dr ?_)))); clear GL; have GL := Lib.hid GL_.out; clear GL_; have GD := Lib.hid M2; clear M2; (try (refine have_then (T := Bx w3 (w1.heap.size) #[.int .i64 0, .slice none 0 0] 41) ?_ (fun y3_0_0 => ?_); (focus ((repeat (first | (with_reducible refine bx_new ?_; (focus (first | with_reducible rfl | (simp; done)))) | with_reducible refine bx_tr ?_ C3.out | with_reducible refine bx_tr ?_ C2.out | with_reducible refine bx_set2 (z0 := .slice none 0 0) (z1 := .slice none 0 0) ?_ | with_reducible refine bx_set2 (z0 := .int .i64 0) (z1 := .slice none 0 0) ?_ | with_reducible refine bx_set4 (z0 := .int .i64 0) (z1 := .slice none 0 0) (z2 := .int .i64 0) (z3 := .slice none 0 0) ?_ | (with_reducible refine bx_ot ?_ ?_; (focus (first | with_reducible assumption | with_reducible exact Nat.le_refl _ | (simp; done) | omega | (simp <;> omega)))) | with_reducible refine bx_al ?_ | with_reducible refine bx_dr ?_)); done)); have y3_0_0c0 := y3_0_0.cell 0 (v := .int .i64 0) rfl; have y3_0_0f0 := y3_0_0.free 0; have y3_0_0c1 := y3_0_0.cell 1 (v := .slice none 0 0) rfl; have y3_0_0f1 := y3_0_0.free 1; have y3_0_0l := y3_0_0.lt; have y3_0_0n := Nat.ne_of_lt y3_0_0l; have y3_0_0m := Nat.ne_of_gt y3_0_0l; have y3_0_0h := Lib.hid y3_0_0; clear y3_0_0)); (try (refine have_then (T := Bx w3 (w2.heap.size) #[.int .i64 0, .slice none 0 0] 41) ?_ (fun y3_1_0 => ?_); (focus ((repeat (first | (with_reducible refine bx_new ?_; (focus (first | with_reducible rfl | (simp; done)))) | with_reducible refine bx_tr ?_ C3.out | with_reducible refine bx_tr ?_ C2.out | with_reducible refine bx_set2 (z0 := .slice none 0 0) (z1 := .slice none 0 0) ?_ | with_reducible refine bx_set2 (z0 := .int .i64 0) (z1 := .slice none 0 0) ?_ | with_reducible refine bx_set4 (z0 := .int .i64 0) (z1 := .slice none 0 0) (z2 := .int .i64 0) (z3 := .slice none 0 0) ?_ | (with_reducible refine bx_ot ?_ ?_; (focus (first | with_reducible assumption | with_reducible exact Nat.le_refl _ | (simp; done) | omega | (simp <;> omega)))) | with_reducible refine bx_al ?_ | with_reducible refine bx_dr ?_)); done)); have y3_1_0c0 := y3_1_0.cell 0 (v := .int .i64 0) rfl; have y3_1_0f0 := y3_1_0.free 0; have y3_1_0c1 := y3_1_0.cell 1 (v := .slice none 0 0) rfl; have y3_1_0f1 := y3_1_0.free 1; have y3_1_0l := y3_1_0.lt; have y3_1_0n := Nat.ne_of_lt y3_1_0l; have y3_1_0m := Nat.ne_of_gt y3_1_0l; have y3_1_0h := Lib.hid y3_1_0; clear y3_1_0)))
          | (go_at_call 33; clear M0; have M1 := trivial; refine (ref7_lift ax ay hp.a hp.b _).mono ?_; rintro e w2 ⟨⟨P1, p1, g1, rfl, d1, M1⟩, B⟩; have C2 := Lib.hid B; clear B; have hs2 : w1.heap.size ≤ w2.heap.size := Below.size (B := w1.heap.size) (by (repeat (first | (with_reducible refine below_st ?_ ?_; (focus (first | with_reducible assumption | with_reducible exact Nat.le_refl _ | (simp; done) | omega | (simp <;> omega)))) | with_reducible refine below_tr ?_ C2.out | with_reducible refine below_al ?_ | with_reducible exact below_rf | with_reducible refine below_dr ?_))); have GL := Lib.hid M1; clear M1; (try (refine have_then (T := Bx w2 (w1.heap.size) #[.int .i64 0, .slice none 0 0] 41) ?_ (fun y2_0_0 => ?_); (focus ((repeat (first | (with_reducible refine bx_new ?_; (focus (first | with_reducible rfl | (simp; done)))) | with_reducible refine bx_tr ?_ C2.out | with_reducible refine bx_set2 (z0 := .slice none 0 0) (z1 := .slice none 0 0) ?_ | with_reducible refine bx_set2 (z0 := .int .i64 0) (z1 := .slice none 0 0) ?_ | with_reducible refine bx_set4 (z0 := .int .i64 0) (z1 := .slice none 0 0) (z2 := .int .i64 0) (z3 := .slice none 0 0) ?_ | (with_reducible refine bx_ot ?_ ?_; (focus (first | with_reducible assumption | with_reducible exact Nat.le_refl _ | (simp; done) | omega | (simp <;> omega)))) | with_reducible refine bx_al ?_ | with_reducible refine bx_dr ?_)); done)); have y2_0_0c0 := y2_0_0.cell 0 (v := .int .i64 0) rfl; have y2_0_0f0 := y2_0_0.free 0; have y2_0_0c1 := y2_0_0.cell 1 (v := .slice none 0 0) rfl; have y2_0_0f1 := y2_0_0.free 1; have y2_0_0l := y2_0_0.lt; have y2_0_0n := Nat.ne_of_lt y2_0_0l; have y2_0_0m := Nat.ne_of_gt y2_0_0l; have y2_0_0h := Lib.hid y2_0_0; clear y2_0_0))))
    all_goals (go_wp2_with fail; go_meet; exact ⟨_, P3, p3, g3, rfl, (by first | with_reducible exact Nat.le_refl _ | with_reducible assumption | omega), by (repeat (first | with_reducible exact y4_0_0h.out | with_reducible exact y4_1_0h.out | with_reducible exact y4_2_0h.out | (with_reducible refine bx_set2 (z0 := .int .i64 0) (z1 := .slice none 0 0) ?_) | (with_reducible refine bx_new ?_; (focus (first | with_reducible rfl | (simp; done)))) | with_reducible refine bx_al ?_ | (with_reducible refine bx_ot ?_ ?_; (focus (first | with_reducible assumption | (simp; done) | omega | (simp <;> omega)))) | with_reducible refine bx_dr ?_)), by omega, by (repeat (first | with_reducible exact GM.out | (with_reducible refine nm_set2 (t := 41) (z0 := .int .i64 0) (z1 := .slice none 0 0) (by decide) ?_ ?_; (focus ((repeat (first | with_reducible exact y4_0_0h.out | with_reducible exact y4_1_0h.out | with_reducible exact y4_2_0h.out | (with_reducible refine bx_set2 (z0 := .int .i64 0) (z1 := .slice none 0 0) ?_) | (with_reducible refine bx_new ?_; (focus (first | with_reducible rfl | (simp; done)))) | with_reducible refine bx_al ?_ | (with_reducible refine bx_ot ?_ ?_; (focus (first | with_reducible assumption | (simp; done) | omega | (simp <;> omega)))) | with_reducible refine bx_dr ?_)); done))) | with_reducible refine nm_al ?_ | with_reducible refine nm_dr ?_)), by (repeat (first | (with_reducible refine below_st ?_ ?_; (focus (first | with_reducible assumption | with_reducible exact Nat.le_refl _ | (simp; done) | omega | (simp <;> omega)))) | with_reducible refine below_tr ?_ C4.out | with_reducible refine below_tr ?_ C3.out | with_reducible refine below_tr ?_ C2.out | with_reducible refine below_al ?_ | with_reducible exact below_rf | with_reducible refine below_dr ?_))⟩)
  case rest =>
    clear QF M0
    obtain ⟨bp, Zp, zp, yp, rfl, bgep, H, zkp, Np, HCB⟩ := hcut
    have FP_5 := Lib.hid (FP_1.out.below HCB (Nat.le_refl _)); clear FP_1
    have FQ_5 := Lib.hid (FQ_1.out.below HCB (Nat.le_refl _)); clear FQ_1
    have FT_5 := Lib.hid (FT_1.out.below HCB (Nat.le_refl _)); clear FT_1
    have FV_5 := Lib.hid (FV_1.out.below HCB (Nat.le_refl _)); clear FV_1
    have FR_5 := Lib.hid (FR_1.out.below HCB (Nat.le_refl _)); clear FR_1
    have HB5 := Lib.hid (HB1.out.trans (HCB.mono HB1.out.size)); clear HCB HB1
    have FBp := Lib.hid H; have FNp := Lib.hid Np; clear H Np
    have rnp : w.heap.size + 1 + 1 + 1 + 1 < bp := Nat.lt_of_lt_of_le rl0 bgep; clear bgep
    have rlp := FR_5.out.lt
    go_upto_region 2 with (fail)
    have M0 := trivial
    have QF := Lib.hid (show ∀ w', Below wc.heap.size wc w' → w'.cell? ⟨w.heap.size, 0, none⟩ = some (.int .i64 ax) ∧ w'.cell? ⟨w.heap.size, 1, none⟩ = some (.int .i64 ay) ∧ w'.cell? ⟨w.heap.size + 1, 0, none⟩ = some (.int .i64 bx) ∧ w'.cell? ⟨w.heap.size + 1, 1, none⟩ = some (.int .i64 b_) ∧ w'.cell? ⟨w.heap.size + 1 + 1, 0, none⟩ = some (.int .i64 cx) ∧ w'.cell? ⟨w.heap.size + 1 + 1, 1, none⟩ = some (.int .i64 cy) ∧ w'.cell? ⟨w.heap.size + 1 + 1 + 1, 0, none⟩ = some (.int .i64 dx) ∧ w'.cell? ⟨w.heap.size + 1 + 1 + 1, 1, none⟩ = some (.int .i64 dy) from fun w' hb => ⟨(FP_5.out.below hb (Nat.le_refl _)).cell 0 (v := .int .i64 ax) rfl, (FP_5.out.below hb (Nat.le_refl _)).cell 1 (v := .int .i64 ay) rfl, (FQ_5.out.below hb (Nat.le_refl _)).cell 0 (v := .int .i64 bx) rfl, (FQ_5.out.below hb (Nat.le_refl _)).cell 1 (v := .int .i64 b_) rfl, (FT_5.out.below hb (Nat.le_refl _)).cell 0 (v := .int .i64 cx) rfl, (FT_5.out.below hb (Nat.le_refl _)).cell 1 (v := .int .i64 cy) rfl, (FV_5.out.below hb (Nat.le_refl _)).cell 0 (v := .int .i64 dx) rfl, (FV_5.out.below hb (Nat.le_refl _)).cell 1 (v := .int .i64 dy) rfl⟩)
    go_cut [10] (fun s10 wx => CutN wc ((bx * bx + b_ * b_) * det ax ay cx cy dx dy) 20 s10 wx)
    case first =>
      go_region_held3 (fun w' => w'.cell? ⟨w.heap.size, 0, none⟩ = some (.int .i64 ax) ∧ w'.cell? ⟨w.heap.size, 1, none⟩ = some (.int .i64 ay) ∧ w'.cell? ⟨w.heap.size + 1, 0, none⟩ = some (.int .i64 bx) ∧ w'.cell? ⟨w.heap.size + 1, 1, none⟩ = some (.int .i64 b_) ∧ w'.cell? ⟨w.heap.size + 1 + 1, 0, none⟩ = some (.int .i64 cx) ∧ w'.cell? ⟨w.heap.size + 1 + 1, 1, none⟩ = some (.int .i64 cy) ∧ w'.cell? ⟨w.heap.size + 1 + 1 + 1, 0, none⟩ = some (.int .i64 dx) ∧ w'.cell? ⟨w.heap.size + 1 + 1 + 1, 1, none⟩ = some (.int .i64 dy)) (first | (with_reducible refine QF.out _ ?_; (repeat (first | (with_reducible refine below_st ?_ ?_; (focus (first | with_reducible assumption | with_reducible exact Nat.le_refl _ | (simp; done) | omega | (simp <;> omega)))) | with_reducible refine below_tr ?_ C8.out | with_reducible refine below_tr ?_ C7.out | with_reducible refine below_tr ?_ C6.out | with_reducible refine below_al ?_ | with_reducible exact below_rf | with_reducible refine below_dr ?_)); done) | (with_reducible refine QF.out _ ?_; (repeat (first | (with_reducible refine below_st ?_ ?_; (focus (first | with_reducible assumption | with_reducible exact Nat.le_refl _ | (simp; done) | omega | (simp <;> omega)))) | with_reducible refine below_tr ?_ C7.out | with_reducible refine below_tr ?_ C6.out | with_reducible refine below_al ?_ | with_reducible exact below_rf | with_reducible refine below_dr ?_)); done) | (with_reducible refine QF.out _ ?_; (repeat (first | (with_reducible refine below_st ?_ ?_; (focus (first | with_reducible assumption | with_reducible exact Nat.le_refl _ | (simp; done) | omega | (simp <;> omega)))) | with_reducible refine below_tr ?_ C6.out | with_reducible refine below_al ?_ | with_reducible exact below_rf | with_reducible refine below_dr ?_)); done) | (with_reducible refine QF.out _ ?_; (repeat (first | (with_reducible refine below_st ?_ ?_; (focus (first | with_reducible assumption | with_reducible exact Nat.le_refl _ | (simp; done) | omega | (simp <;> omega)))) | with_reducible refine below_al ?_ | with_reducible exact below_rf | with_reducible refine below_dr ?_)); done)) (first
              | (go_at_call 32; clear M2; have M3 := trivial; refine (ref3_Mul P1 P2 p1 g1 p2 g2 _ _ _ (fwd_nm GL.out (by (repeat (first | with_reducible exact below_rf | with_reducible refine below_al ?_ | with_reducible refine below_dr ?_)))) (fwd_nm GD.out (by (repeat (first | with_reducible exact below_rf | with_reducible refine below_al ?_ | with_reducible refine below_dr ?_)))) (by omega) (by omega)).mono ?_; rintro e w8 ⟨⟨P3, p3, g3, rfl, d3, M3⟩, B⟩; have C8 := Lib.hid B; clear B; have hs8 : wc.heap.size ≤ w8.heap.size := Below.size (B := wc.heap.size) (by (repeat (first | (with_reducible refine below_st ?_ ?_; (focus (first | with_reducible assumption | with_reducible exact Nat.le_refl _ | (simp; done) | omega | (simp <;> omega)))) | with_reducible refine below_tr ?_ C8.out | with_reducible refine below_tr ?_ C7.out | with_reducible refine below_tr ?_ C6.out | with_reducible refine below_al ?_ | with_reducible exact below_rf | with_reducible refine below_dr ?_))); have GL_ := Lib.hid (fwd_nm (w' := w8) GL.out (by (repeat (first | with_reducible exact below_rf | with_reducible refine below_tr ?_ C8.out | with_reducible refine below_al ?_ | with_reducible refine below_dr ?_)))); clear GL; have GL := Lib.hid GL_.out; clear GL_; have GD_ := Lib.hid (fwd_nm (w' := w8) GD.out (by (repeat (first | with_reducible exact below_rf | with_reducible refine below_tr ?_ C8.out | with_reducible refine below_al ?_ | with_reducible refine below_dr ?_)))); clear GD; have GD := Lib.hid GD_.out; clear GD_; have GM := Lib.hid M3; clear M3; (try (refine have_then (T := Bx w8 (wc.heap.size) #[.int .i64 0, .slice none 0 0] 41) ?_ (fun y8_0_0 => ?_); (focus ((repeat (first | (with_reducible refine bx_new ?_; (focus (first | with_reducible rfl | (simp; done)))) | with_reducible refine bx_tr ?_ C8.out | with_reducible refine bx_tr ?_ C7.out | with_reducible refine bx_tr ?_ C6.out | with_reducible refine bx_set2 (z0 := .slice none 0 0) (z1 := .slice none 0 0) ?_ | with_reducible refine bx_set2 (z0 := .int .i64 0) (z1 := .slice none 0 0) ?_ | with_reducible refine bx_set4 (z0 := .int .i64 0) (z1 := .slice none 0 0) (z2 := .int .i64 0) (z3 := .slice none 0 0) ?_ | (with_reducible refine bx_ot ?_ ?_; (focus (first | with_reducible assumption | with_reducible exact Nat.le_refl _ | (simp; done) | omega | (simp <;> omega)))) | with_reducible refine bx_al ?_ | with_reducible refine bx_dr ?_)); done)); have y8_0_0c0 := y8_0_0.cell 0 (v := .int .i64 0) rfl; have y8_0_0f0 := y8_0_0.free 0; have y8_0_0c1 := y8_0_0.cell 1 (v := .slice none 0 0) rfl; have y8_0_0f1 := y8_0_0.free 1; have y8_0_0l := y8_0_0.lt; have y8_0_0n := Nat.ne_of_lt y8_0_0l; have y8_0_0m := Nat.ne_of_gt y8_0_0l; have y8_0_0h := Lib.hid y8_0_0; clear y8_0_0)); (try (refine have_then (T := Bx w8 (w6.heap.size) #[.int .i64 0, .slice none 0 0] 41) ?_ (fun y8_1_0 => ?_); (focus ((repeat (first | (with_reducible refine bx_new ?_; (focus (first | with_reducible rfl | (simp; done)))) | with_reducible refine bx_tr ?_ C8.out | with_reducible refine bx_tr ?_ C7.out | with_reducible refine bx_tr ?_ C6.out | with_reducible refine bx_set2 (z0 := .slice none 0 0) (z1 := .slice none 0 0) ?_ | with_reducible refine bx_set2 (z0 := .int .i64 0) (z1 := .slice none 0 0) ?_ | with_reducible refine bx_set4 (z0 := .int .i64 0) (z1 := .slice none 0 0) (z2 := .int .i64 0) (z3 := .slice none 0 0) ?_ | (with_reducible refine bx_ot ?_ ?_; (focus (first | with_reducible assumption | with_reducible exact Nat.le_refl _ | (simp; done) | omega | (simp <;> omega)))) | with_reducible refine bx_al ?_ | with_reducible refine bx_dr ?_)); done)); have y8_1_0c0 := y8_1_0.cell 0 (v := .int .i64 0) rfl; have y8_1_0f0 := y8_1_0.free 0; have y8_1_0c1 := y8_1_0.cell 1 (v := .slice none 0 0) rfl; have y8_1_0f1 := y8_1_0.free 1; have y8_1_0l := y8_1_0.lt; have y8_1_0n := Nat.ne_of_lt y8_1_0l; have y8_1_0m := Nat.ne_of_gt y8_1_0l; have y8_1_0h := Lib.hid y8_1_0; clear y8_1_0)); (try (refine have_then (T := Bx w8 (w7.heap.size) #[.int .i64 0, .slice none 0 0] 41) ?_ (fun y8_2_0 => ?_); (focus ((repeat (first | (with_reducible refine bx_new ?_; (focus (first | with_reducible rfl | (simp; done)))) | with_reducible refine bx_tr ?_ C8.out | with_reducible refine bx_tr ?_ C7.out | with_reducible refine bx_tr ?_ C6.out | with_reducible refine bx_set2 (z0 := .slice none 0 0) (z1 := .slice none 0 0) ?_ | with_reducible refine bx_set2 (z0 := .int .i64 0) (z1 := .slice none 0 0) ?_ | with_reducible refine bx_set4 (z0 := .int .i64 0) (z1 := .slice none 0 0) (z2 := .int .i64 0) (z3 := .slice none 0 0) ?_ | (with_reducible refine bx_ot ?_ ?_; (focus (first | with_reducible assumption | with_reducible exact Nat.le_refl _ | (simp; done) | omega | (simp <;> omega)))) | with_reducible refine bx_al ?_ | with_reducible refine bx_dr ?_)); done)); have y8_2_0c0 := y8_2_0.cell 0 (v := .int .i64 0) rfl; have y8_2_0f0 := y8_2_0.free 0; have y8_2_0c1 := y8_2_0.cell 1 (v := .slice none 0 0) rfl; have y8_2_0f1 := y8_2_0.free 1; have y8_2_0l := y8_2_0.lt; have y8_2_0n := Nat.ne_of_lt y8_2_0l; have y8_2_0m := Nat.ne_of_gt y8_2_0l; have y8_2_0h := Lib.hid y8_2_0; clear y8_2_0)))
              | (go_at_call 31; clear M1; have M2 := trivial; refine (ref6_Value ax ay cx cy dx dy (show P3 ax ay cx cy dx dy from ⟨hp.a, hp.b, hp.e, hp.f, hp.g, hp.h⟩) _).mono ?_; rintro e w7 ⟨⟨P2, p2, g2, rfl, d2, M2⟩, B⟩; have C7 := Lib.hid B; clear B; have hs7 : wc.heap.size ≤ w7.heap.size := Below.size (B := wc.heap.size) (by (repeat (first | (with_reducible refine below_st ?_ ?_; (focus (first | with_reducible assumption | with_reducible exact Nat.le_refl _ | (simp; done) | omega | (simp <;> omega)))) | with_reducible refine below_tr ?_ C7.out | with_reducible refine below_tr ?_ C6.out | with_reducible refine below_al ?_ | with_reducible exact below_rf | with_reducible refine below_dr ?_))); have GL_ := Lib.hid (fwd_nm (w' := w7) GL.out (by (repeat (first | with_reducible exact below_rf | with_reducible refine below_tr ?_ C7.out | with_reducible refine below_al ?_ | with_reducible refine below_dr ?_)))); clear GL; have GL := Lib.hid GL_.out; clear GL_; have GD := Lib.hid M2; clear M2; (try (refine have_then (T := Bx w7 (wc.heap.size) #[.int .i64 0, .slice none 0 0] 41) ?_ (fun y7_0_0 => ?_); (focus ((repeat (first | (with_reducible refine bx_new ?_; (focus (first | with_reducible rfl | (simp; done)))) | with_reducible refine bx_tr ?_ C7.out | with_reducible refine bx_tr ?_ C6.out | with_reducible refine bx_set2 (z0 := .slice none 0 0) (z1 := .slice none 0 0) ?_ | with_reducible refine bx_set2 (z0 := .int .i64 0) (z1 := .slice none 0 0) ?_ | with_reducible refine bx_set4 (z0 := .int .i64 0) (z1 := .slice none 0 0) (z2 := .int .i64 0) (z3 := .slice none 0 0) ?_ | (with_reducible refine bx_ot ?_ ?_; (focus (first | with_reducible assumption | with_reducible exact Nat.le_refl _ | (simp; done) | omega | (simp <;> omega)))) | with_reducible refine bx_al ?_ | with_reducible refine bx_dr ?_)); done)); have y7_0_0c0 := y7_0_0.cell 0 (v := .int .i64 0) rfl; have y7_0_0f0 := y7_0_0.free 0; have y7_0_0c1 := y7_0_0.cell 1 (v := .slice none 0 0) rfl; have y7_0_0f1 := y7_0_0.free 1; have y7_0_0l := y7_0_0.lt; have y7_0_0n := Nat.ne_of_lt y7_0_0l; have y7_0_0m := Nat.ne_of_gt y7_0_0l; have y7_0_0h := Lib.hid y7_0_0; clear y7_0_0)); (try (refine have_then (T := Bx w7 (w6.heap.size) #[.int .i64 0, .slice none 0 0] 41) ?_ (fun y7_1_0 => ?_); (focus ((repeat (first | (with_reducible refine bx_new ?_; (focus (first | with_reducible rfl | (simp; done)))) | with_reducible refine bx_tr ?_ C7.out | with_reducible refine bx_tr ?_ C6.out | with_reducible refine bx_set2 (z0 := .slice none 0 0) (z1 := .slice none 0 0) ?_ | with_reducible refine bx_set2 (z0 := .int .i64 0) (z1 := .slice none 0 0) ?_ | with_reducible refine bx_set4 (z0 := .int .i64 0) (z1 := .slice none 0 0) (z2 := .int .i64 0) (z3 := .slice none 0 0) ?_ | (with_reducible refine bx_ot ?_ ?_; (focus (first | with_reducible assumption | with_reducible exact Nat.le_refl _ | (simp; done) | omega | (simp <;> omega)))) | with_reducible refine bx_al ?_ | with_reducible refine bx_dr ?_)); done)); have y7_1_0c0 := y7_1_0.cell 0 (v := .int .i64 0) rfl; have y7_1_0f0 := y7_1_0.free 0; have y7_1_0c1 := y7_1_0.cell 1 (v := .slice none 0 0) rfl; have y7_1_0f1 := y7_1_0.free 1; have y7_1_0l := y7_1_0.lt; have y7_1_0n := Nat.ne_of_lt y7_1_0l; have y7_1_0m := Nat.ne_of_gt y7_1_0l; have y7_1_0h := Lib.hid y7_1_0; clear y7_1_0)))
              | (go_at_call 33; clear M0; have M1 := trivial; refine (ref7_lift bx b_ hp.c hp.d _).mono ?_; rintro e w6 ⟨⟨P1, p1, g1, rfl, d1, M1⟩, B⟩; have C6 := Lib.hid B; clear B; have hs6 : wc.heap.size ≤ w6.heap.size := Below.size (B := wc.heap.size) (by (repeat (first | (with_reducible refine below_st ?_ ?_; (focus (first | with_reducible assumption | with_reducible exact Nat.le_refl _ | (simp; done) | omega | (simp <;> omega)))) | with_reducible refine below_tr ?_ C6.out | with_reducible refine below_al ?_ | with_reducible exact below_rf | with_reducible refine below_dr ?_))); have GL := Lib.hid M1; clear M1; (try (refine have_then (T := Bx w6 (wc.heap.size) #[.int .i64 0, .slice none 0 0] 41) ?_ (fun y6_0_0 => ?_); (focus ((repeat (first | (with_reducible refine bx_new ?_; (focus (first | with_reducible rfl | (simp; done)))) | with_reducible refine bx_tr ?_ C6.out | with_reducible refine bx_set2 (z0 := .slice none 0 0) (z1 := .slice none 0 0) ?_ | with_reducible refine bx_set2 (z0 := .int .i64 0) (z1 := .slice none 0 0) ?_ | with_reducible refine bx_set4 (z0 := .int .i64 0) (z1 := .slice none 0 0) (z2 := .int .i64 0) (z3 := .slice none 0 0) ?_ | (with_reducible refine bx_ot ?_ ?_; (focus (first | with_reducible assumption | with_reducible exact Nat.le_refl _ | (simp; done) | omega | (simp <;> omega)))) | with_reducible refine bx_al ?_ | with_reducible refine bx_dr ?_)); done)); have y6_0_0c0 := y6_0_0.cell 0 (v := .int .i64 0) rfl; have y6_0_0f0 := y6_0_0.free 0; have y6_0_0c1 := y6_0_0.cell 1 (v := .slice none 0 0) rfl; have y6_0_0f1 := y6_0_0.free 1; have y6_0_0l := y6_0_0.lt; have y6_0_0n := Nat.ne_of_lt y6_0_0l; have y6_0_0m := Nat.ne_of_gt y6_0_0l; have y6_0_0h := Lib.hid y6_0_0; clear y6_0_0))))
      all_goals (go_wp2_with fail; go_meet; exact ⟨_, P3, p3, g3, rfl, (by first | with_reducible exact Nat.le_refl _ | with_reducible assumption | omega), by (repeat (first | with_reducible exact y8_0_0h.out | with_reducible exact y8_1_0h.out | with_reducible exact y8_2_0h.out | (with_reducible refine bx_set2 (z0 := .int .i64 0) (z1 := .slice none 0 0) ?_) | (with_reducible refine bx_new ?_; (focus (first | with_reducible rfl | (simp; done)))) | with_reducible refine bx_al ?_ | (with_reducible refine bx_ot ?_ ?_; (focus (first | with_reducible assumption | (simp; done) | omega | (simp <;> omega)))) | with_reducible refine bx_dr ?_)), by omega, by (repeat (first | with_reducible exact GM.out | (with_reducible refine nm_set2 (t := 41) (z0 := .int .i64 0) (z1 := .slice none 0 0) (by decide) ?_ ?_; (focus ((repeat (first | with_reducible exact y8_0_0h.out | with_reducible exact y8_1_0h.out | with_reducible exact y8_2_0h.out | (with_reducible refine bx_set2 (z0 := .int .i64 0) (z1 := .slice none 0 0) ?_) | (with_reducible refine bx_new ?_; (focus (first | with_reducible rfl | (simp; done)))) | with_reducible refine bx_al ?_ | (with_reducible refine bx_ot ?_ ?_; (focus (first | with_reducible assumption | (simp; done) | omega | (simp <;> omega)))) | with_reducible refine bx_dr ?_)); done))) | with_reducible refine nm_al ?_ | with_reducible refine nm_dr ?_)), by (repeat (first | (with_reducible refine below_st ?_ ?_; (focus (first | with_reducible assumption | with_reducible exact Nat.le_refl _ | (simp; done) | omega | (simp <;> omega)))) | with_reducible refine below_tr ?_ C8.out | with_reducible refine below_tr ?_ C7.out | with_reducible refine below_tr ?_ C6.out | with_reducible refine below_al ?_ | with_reducible exact below_rf | with_reducible refine below_dr ?_))⟩)
    case rest =>
      clear QF M0
      obtain ⟨bq, Zq, zq, yq, rfl, bgeq, H, zkq, Nq, HCB⟩ := hcut
      have FP_9 := Lib.hid (FP_5.out.below HCB (Nat.le_refl _)); clear FP_5
      have FQ_9 := Lib.hid (FQ_5.out.below HCB (Nat.le_refl _)); clear FQ_5
      have FT_9 := Lib.hid (FT_5.out.below HCB (Nat.le_refl _)); clear FT_5
      have FV_9 := Lib.hid (FV_5.out.below HCB (Nat.le_refl _)); clear FV_5
      have FR_9 := Lib.hid (FR_5.out.below HCB (Nat.le_refl _)); clear FR_5
      have FBp_9 := Lib.hid (FBp.out.below HCB (Nat.le_refl _)); clear FBp
      have FNp_9 := Lib.hid (FNp.out.below HCB (Nat.le_refl _)); clear FNp
      have HB9 := Lib.hid (HB5.out.trans (HCB.mono HB5.out.size)); clear HCB HB5
      have FBq := Lib.hid H; have FNq := Lib.hid Nq; clear H Nq
      have rnq : w.heap.size + 1 + 1 + 1 + 1 < bq := Nat.lt_of_lt_of_le rlp bgeq; clear bgeq
      have rlq := FR_9.out.lt
      go_upto_region 3 with (fail)
      have M0 := trivial
      have QF := Lib.hid (show ∀ w', Below wc.heap.size wc w' → w'.cell? ⟨w.heap.size, 0, none⟩ = some (.int .i64 ax) ∧ w'.cell? ⟨w.heap.size, 1, none⟩ = some (.int .i64 ay) ∧ w'.cell? ⟨w.heap.size + 1, 0, none⟩ = some (.int .i64 bx) ∧ w'.cell? ⟨w.heap.size + 1, 1, none⟩ = some (.int .i64 b_) ∧ w'.cell? ⟨w.heap.size + 1 + 1, 0, none⟩ = some (.int .i64 cx) ∧ w'.cell? ⟨w.heap.size + 1 + 1, 1, none⟩ = some (.int .i64 cy) ∧ w'.cell? ⟨w.heap.size + 1 + 1 + 1, 0, none⟩ = some (.int .i64 dx) ∧ w'.cell? ⟨w.heap.size + 1 + 1 + 1, 1, none⟩ = some (.int .i64 dy) from fun w' hb => ⟨(FP_9.out.below hb (Nat.le_refl _)).cell 0 (v := .int .i64 ax) rfl, (FP_9.out.below hb (Nat.le_refl _)).cell 1 (v := .int .i64 ay) rfl, (FQ_9.out.below hb (Nat.le_refl _)).cell 0 (v := .int .i64 bx) rfl, (FQ_9.out.below hb (Nat.le_refl _)).cell 1 (v := .int .i64 b_) rfl, (FT_9.out.below hb (Nat.le_refl _)).cell 0 (v := .int .i64 cx) rfl, (FT_9.out.below hb (Nat.le_refl _)).cell 1 (v := .int .i64 cy) rfl, (FV_9.out.below hb (Nat.le_refl _)).cell 0 (v := .int .i64 dx) rfl, (FV_9.out.below hb (Nat.le_refl _)).cell 1 (v := .int .i64 dy) rfl⟩)
      go_cut [11] (fun s11 wx => CutN wc ((cx * cx + cy * cy) * det ax ay bx b_ dx dy) 20 s11 wx)
      case first =>
        go_region_held3 (fun w' => w'.cell? ⟨w.heap.size, 0, none⟩ = some (.int .i64 ax) ∧ w'.cell? ⟨w.heap.size, 1, none⟩ = some (.int .i64 ay) ∧ w'.cell? ⟨w.heap.size + 1, 0, none⟩ = some (.int .i64 bx) ∧ w'.cell? ⟨w.heap.size + 1, 1, none⟩ = some (.int .i64 b_) ∧ w'.cell? ⟨w.heap.size + 1 + 1, 0, none⟩ = some (.int .i64 cx) ∧ w'.cell? ⟨w.heap.size + 1 + 1, 1, none⟩ = some (.int .i64 cy) ∧ w'.cell? ⟨w.heap.size + 1 + 1 + 1, 0, none⟩ = some (.int .i64 dx) ∧ w'.cell? ⟨w.heap.size + 1 + 1 + 1, 1, none⟩ = some (.int .i64 dy)) (first | (with_reducible refine QF.out _ ?_; (repeat (first | (with_reducible refine below_st ?_ ?_; (focus (first | with_reducible assumption | with_reducible exact Nat.le_refl _ | (simp; done) | omega | (simp <;> omega)))) | with_reducible refine below_tr ?_ C12.out | with_reducible refine below_tr ?_ C11.out | with_reducible refine below_tr ?_ C10.out | with_reducible refine below_al ?_ | with_reducible exact below_rf | with_reducible refine below_dr ?_)); done) | (with_reducible refine QF.out _ ?_; (repeat (first | (with_reducible refine below_st ?_ ?_; (focus (first | with_reducible assumption | with_reducible exact Nat.le_refl _ | (simp; done) | omega | (simp <;> omega)))) | with_reducible refine below_tr ?_ C11.out | with_reducible refine below_tr ?_ C10.out | with_reducible refine below_al ?_ | with_reducible exact below_rf | with_reducible refine below_dr ?_)); done) | (with_reducible refine QF.out _ ?_; (repeat (first | (with_reducible refine below_st ?_ ?_; (focus (first | with_reducible assumption | with_reducible exact Nat.le_refl _ | (simp; done) | omega | (simp <;> omega)))) | with_reducible refine below_tr ?_ C10.out | with_reducible refine below_al ?_ | with_reducible exact below_rf | with_reducible refine below_dr ?_)); done) | (with_reducible refine QF.out _ ?_; (repeat (first | (with_reducible refine below_st ?_ ?_; (focus (first | with_reducible assumption | with_reducible exact Nat.le_refl _ | (simp; done) | omega | (simp <;> omega)))) | with_reducible refine below_al ?_ | with_reducible exact below_rf | with_reducible refine below_dr ?_)); done)) (first
                  | (go_at_call 32; clear M2; have M3 := trivial; refine (ref3_Mul P1 P2 p1 g1 p2 g2 _ _ _ (fwd_nm GL.out (by (repeat (first | with_reducible exact below_rf | with_reducible refine below_al ?_ | with_reducible refine below_dr ?_)))) (fwd_nm GD.out (by (repeat (first | with_reducible exact below_rf | with_reducible refine below_al ?_ | with_reducible refine below_dr ?_)))) (by omega) (by omega)).mono ?_; rintro e w12 ⟨⟨P3, p3, g3, rfl, d3, M3⟩, B⟩; have C12 := Lib.hid B; clear B; have hs12 : wc.heap.size ≤ w12.heap.size := Below.size (B := wc.heap.size) (by (repeat (first | (with_reducible refine below_st ?_ ?_; (focus (first | with_reducible assumption | with_reducible exact Nat.le_refl _ | (simp; done) | omega | (simp <;> omega)))) | with_reducible refine below_tr ?_ C12.out | with_reducible refine below_tr ?_ C11.out | with_reducible refine below_tr ?_ C10.out | with_reducible refine below_al ?_ | with_reducible exact below_rf | with_reducible refine below_dr ?_))); have GL_ := Lib.hid (fwd_nm (w' := w12) GL.out (by (repeat (first | with_reducible exact below_rf | with_reducible refine below_tr ?_ C12.out | with_reducible refine below_al ?_ | with_reducible refine below_dr ?_)))); clear GL; have GL := Lib.hid GL_.out; clear GL_; have GD_ := Lib.hid (fwd_nm (w' := w12) GD.out (by (repeat (first | with_reducible exact below_rf | with_reducible refine below_tr ?_ C12.out | with_reducible refine below_al ?_ | with_reducible refine below_dr ?_)))); clear GD; have GD := Lib.hid GD_.out; clear GD_; have GM := Lib.hid M3; clear M3; (try (refine have_then (T := Bx w12 (wc.heap.size) #[.int .i64 0, .slice none 0 0] 41) ?_ (fun y12_0_0 => ?_); (focus ((repeat (first | (with_reducible refine bx_new ?_; (focus (first | with_reducible rfl | (simp; done)))) | with_reducible refine bx_tr ?_ C12.out | with_reducible refine bx_tr ?_ C11.out | with_reducible refine bx_tr ?_ C10.out | with_reducible refine bx_set2 (z0 := .slice none 0 0) (z1 := .slice none 0 0) ?_ | with_reducible refine bx_set2 (z0 := .int .i64 0) (z1 := .slice none 0 0) ?_ | with_reducible refine bx_set4 (z0 := .int .i64 0) (z1 := .slice none 0 0) (z2 := .int .i64 0) (z3 := .slice none 0 0) ?_ | (with_reducible refine bx_ot ?_ ?_; (focus (first | with_reducible assumption | with_reducible exact Nat.le_refl _ | (simp; done) | omega | (simp <;> omega)))) | with_reducible refine bx_al ?_ | with_reducible refine bx_dr ?_)); done)); have y12_0_0c0 := y12_0_0.cell 0 (v := .int .i64 0) rfl; have y12_0_0f0 := y12_0_0.free 0; have y12_0_0c1 := y12_0_0.cell 1 (v := .slice none 0 0) rfl; have y12_0_0f1 := y12_0_0.free 1; have y12_0_0l := y12_0_0.lt; have y12_0_0n := Nat.ne_of_lt y12_0_0l; have y12_0_0m := Nat.ne_of_gt y12_0_0l; have y12_0_0h := Lib.hid y12_0_0; clear y12_0_0)); (try (refine have_then (T := Bx w12 (w10.heap.size) #[.int .i64 0, .slice none 0 0] 41) ?_ (fun y12_1_0 => ?_); (focus ((repeat (first | (with_reducible refine bx_new ?_; (focus (first | with_reducible rfl | (simp; done)))) | with_reducible refine bx_tr ?_ C12.out | with_reducible refine bx_tr ?_ C11.out | with_reducible refine bx_tr ?_ C10.out | with_reducible refine bx_set2 (z0 := .slice none 0 0) (z1 := .slice none 0 0) ?_ | with_reducible refine bx_set2 (z0 := .int .i64 0) (z1 := .slice none 0 0) ?_ | with_reducible refine bx_set4 (z0 := .int .i64 0) (z1 := .slice none 0 0) (z2 := .int .i64 0) (z3 := .slice none 0 0) ?_ | (with_reducible refine bx_ot ?_ ?_; (focus (first | with_reducible assumption | with_reducible exact Nat.le_refl _ | (simp; done) | omega | (simp <;> omega)))) | with_reducible refine bx_al ?_ | with_reducible refine bx_dr ?_)); done)); have y12_1_0c0 := y12_1_0.cell 0 (v := .int .i64 0) rfl; have y12_1_0f0 := y12_1_0.free 0; have y12_1_0c1 := y12_1_0.cell 1 (v := .slice none 0 0) rfl; have y12_1_0f1 := y12_1_0.free 1; have y12_1_0l := y12_1_0.lt; have y12_1_0n := Nat.ne_of_lt y12_1_0l; have y12_1_0m := Nat.ne_of_gt y12_1_0l; have y12_1_0h := Lib.hid y12_1_0; clear y12_1_0)); (try (refine have_then (T := Bx w12 (w11.heap.size) #[.int .i64 0, .slice none 0 0] 41) ?_ (fun y12_2_0 => ?_); (focus ((repeat (first | (with_reducible refine bx_new ?_; (focus (first | with_reducible rfl | (simp; done)))) | with_reducible refine bx_tr ?_ C12.out | with_reducible refine bx_tr ?_ C11.out | with_reducible refine bx_tr ?_ C10.out | with_reducible refine bx_set2 (z0 := .slice none 0 0) (z1 := .slice none 0 0) ?_ | with_reducible refine bx_set2 (z0 := .int .i64 0) (z1 := .slice none 0 0) ?_ | with_reducible refine bx_set4 (z0 := .int .i64 0) (z1 := .slice none 0 0) (z2 := .int .i64 0) (z3 := .slice none 0 0) ?_ | (with_reducible refine bx_ot ?_ ?_; (focus (first | with_reducible assumption | with_reducible exact Nat.le_refl _ | (simp; done) | omega | (simp <;> omega)))) | with_reducible refine bx_al ?_ | with_reducible refine bx_dr ?_)); done)); have y12_2_0c0 := y12_2_0.cell 0 (v := .int .i64 0) rfl; have y12_2_0f0 := y12_2_0.free 0; have y12_2_0c1 := y12_2_0.cell 1 (v := .slice none 0 0) rfl; have y12_2_0f1 := y12_2_0.free 1; have y12_2_0l := y12_2_0.lt; have y12_2_0n := Nat.ne_of_lt y12_2_0l; have y12_2_0m := Nat.ne_of_gt y12_2_0l; have y12_2_0h := Lib.hid y12_2_0; clear y12_2_0)))
                  | (go_at_call 31; clear M1; have M2 := trivial; refine (ref6_Value ax ay bx b_ dx dy (show P3 ax ay bx b_ dx dy from ⟨hp.a, hp.b, hp.c, hp.d, hp.g, hp.h⟩) _).mono ?_; rintro e w11 ⟨⟨P2, p2, g2, rfl, d2, M2⟩, B⟩; have C11 := Lib.hid B; clear B; have hs11 : wc.heap.size ≤ w11.heap.size := Below.size (B := wc.heap.size) (by (repeat (first | (with_reducible refine below_st ?_ ?_; (focus (first | with_reducible assumption | with_reducible exact Nat.le_refl _ | (simp; done) | omega | (simp <;> omega)))) | with_reducible refine below_tr ?_ C11.out | with_reducible refine below_tr ?_ C10.out | with_reducible refine below_al ?_ | with_reducible exact below_rf | with_reducible refine below_dr ?_))); have GL_ := Lib.hid (fwd_nm (w' := w11) GL.out (by (repeat (first | with_reducible exact below_rf | with_reducible refine below_tr ?_ C11.out | with_reducible refine below_al ?_ | with_reducible refine below_dr ?_)))); clear GL; have GL := Lib.hid GL_.out; clear GL_; have GD := Lib.hid M2; clear M2; (try (refine have_then (T := Bx w11 (wc.heap.size) #[.int .i64 0, .slice none 0 0] 41) ?_ (fun y11_0_0 => ?_); (focus ((repeat (first | (with_reducible refine bx_new ?_; (focus (first | with_reducible rfl | (simp; done)))) | with_reducible refine bx_tr ?_ C11.out | with_reducible refine bx_tr ?_ C10.out | with_reducible refine bx_set2 (z0 := .slice none 0 0) (z1 := .slice none 0 0) ?_ | with_reducible refine bx_set2 (z0 := .int .i64 0) (z1 := .slice none 0 0) ?_ | with_reducible refine bx_set4 (z0 := .int .i64 0) (z1 := .slice none 0 0) (z2 := .int .i64 0) (z3 := .slice none 0 0) ?_ | (with_reducible refine bx_ot ?_ ?_; (focus (first | with_reducible assumption | with_reducible exact Nat.le_refl _ | (simp; done) | omega | (simp <;> omega)))) | with_reducible refine bx_al ?_ | with_reducible refine bx_dr ?_)); done)); have y11_0_0c0 := y11_0_0.cell 0 (v := .int .i64 0) rfl; have y11_0_0f0 := y11_0_0.free 0; have y11_0_0c1 := y11_0_0.cell 1 (v := .slice none 0 0) rfl; have y11_0_0f1 := y11_0_0.free 1; have y11_0_0l := y11_0_0.lt; have y11_0_0n := Nat.ne_of_lt y11_0_0l; have y11_0_0m := Nat.ne_of_gt y11_0_0l; have y11_0_0h := Lib.hid y11_0_0; clear y11_0_0)); (try (refine have_then (T := Bx w11 (w10.heap.size) #[.int .i64 0, .slice none 0 0] 41) ?_ (fun y11_1_0 => ?_); (focus ((repeat (first | (with_reducible refine bx_new ?_; (focus (first | with_reducible rfl | (simp; done)))) | with_reducible refine bx_tr ?_ C11.out | with_reducible refine bx_tr ?_ C10.out | with_reducible refine bx_set2 (z0 := .slice none 0 0) (z1 := .slice none 0 0) ?_ | with_reducible refine bx_set2 (z0 := .int .i64 0) (z1 := .slice none 0 0) ?_ | with_reducible refine bx_set4 (z0 := .int .i64 0) (z1 := .slice none 0 0) (z2 := .int .i64 0) (z3 := .slice none 0 0) ?_ | (with_reducible refine bx_ot ?_ ?_; (focus (first | with_reducible assumption | with_reducible exact Nat.le_refl _ | (simp; done) | omega | (simp <;> omega)))) | with_reducible refine bx_al ?_ | with_reducible refine bx_dr ?_)); done)); have y11_1_0c0 := y11_1_0.cell 0 (v := .int .i64 0) rfl; have y11_1_0f0 := y11_1_0.free 0; have y11_1_0c1 := y11_1_0.cell 1 (v := .slice none 0 0) rfl; have y11_1_0f1 := y11_1_0.free 1; have y11_1_0l := y11_1_0.lt; have y11_1_0n := Nat.ne_of_lt y11_1_0l; have y11_1_0m := Nat.ne_of_gt y11_1_0l; have y11_1_0h := Lib.hid y11_1_0; clear y11_1_0)))
                  | (go_at_call 33; clear M0; have M1 := trivial; refine (ref7_lift cx cy hp.e hp.f _).mono ?_; rintro e w10 ⟨⟨P1, p1, g1, rfl, d1, M1⟩, B⟩; have C10 := Lib.hid B; clear B; have hs10 : wc.heap.size ≤ w10.heap.size := Below.size (B := wc.heap.size) (by (repeat (first | (with_reducible refine below_st ?_ ?_; (focus (first | with_reducible assumption | with_reducible exact Nat.le_refl _ | (simp; done) | omega | (simp <;> omega)))) | with_reducible refine below_tr ?_ C10.out | with_reducible refine below_al ?_ | with_reducible exact below_rf | with_reducible refine below_dr ?_))); have GL := Lib.hid M1; clear M1; (try (refine have_then (T := Bx w10 (wc.heap.size) #[.int .i64 0, .slice none 0 0] 41) ?_ (fun y10_0_0 => ?_); (focus ((repeat (first | (with_reducible refine bx_new ?_; (focus (first | with_reducible rfl | (simp; done)))) | with_reducible refine bx_tr ?_ C10.out | with_reducible refine bx_set2 (z0 := .slice none 0 0) (z1 := .slice none 0 0) ?_ | with_reducible refine bx_set2 (z0 := .int .i64 0) (z1 := .slice none 0 0) ?_ | with_reducible refine bx_set4 (z0 := .int .i64 0) (z1 := .slice none 0 0) (z2 := .int .i64 0) (z3 := .slice none 0 0) ?_ | (with_reducible refine bx_ot ?_ ?_; (focus (first | with_reducible assumption | with_reducible exact Nat.le_refl _ | (simp; done) | omega | (simp <;> omega)))) | with_reducible refine bx_al ?_ | with_reducible refine bx_dr ?_)); done)); have y10_0_0c0 := y10_0_0.cell 0 (v := .int .i64 0) rfl; have y10_0_0f0 := y10_0_0.free 0; have y10_0_0c1 := y10_0_0.cell 1 (v := .slice none 0 0) rfl; have y10_0_0f1 := y10_0_0.free 1; have y10_0_0l := y10_0_0.lt; have y10_0_0n := Nat.ne_of_lt y10_0_0l; have y10_0_0m := Nat.ne_of_gt y10_0_0l; have y10_0_0h := Lib.hid y10_0_0; clear y10_0_0))))
        all_goals (go_wp2_with fail; go_meet; exact ⟨_, P3, p3, g3, rfl, (by first | with_reducible exact Nat.le_refl _ | with_reducible assumption | omega), by (repeat (first | with_reducible exact y12_0_0h.out | with_reducible exact y12_1_0h.out | with_reducible exact y12_2_0h.out | (with_reducible refine bx_set2 (z0 := .int .i64 0) (z1 := .slice none 0 0) ?_) | (with_reducible refine bx_new ?_; (focus (first | with_reducible rfl | (simp; done)))) | with_reducible refine bx_al ?_ | (with_reducible refine bx_ot ?_ ?_; (focus (first | with_reducible assumption | (simp; done) | omega | (simp <;> omega)))) | with_reducible refine bx_dr ?_)), by omega, by (repeat (first | with_reducible exact GM.out | (with_reducible refine nm_set2 (t := 41) (z0 := .int .i64 0) (z1 := .slice none 0 0) (by decide) ?_ ?_; (focus ((repeat (first | with_reducible exact y12_0_0h.out | with_reducible exact y12_1_0h.out | with_reducible exact y12_2_0h.out | (with_reducible refine bx_set2 (z0 := .int .i64 0) (z1 := .slice none 0 0) ?_) | (with_reducible refine bx_new ?_; (focus (first | with_reducible rfl | (simp; done)))) | with_reducible refine bx_al ?_ | (with_reducible refine bx_ot ?_ ?_; (focus (first | with_reducible assumption | (simp; done) | omega | (simp <;> omega)))) | with_reducible refine bx_dr ?_)); done))) | with_reducible refine nm_al ?_ | with_reducible refine nm_dr ?_)), by (repeat (first | (with_reducible refine below_st ?_ ?_; (focus (first | with_reducible assumption | with_reducible exact Nat.le_refl _ | (simp; done) | omega | (simp <;> omega)))) | with_reducible refine below_tr ?_ C12.out | with_reducible refine below_tr ?_ C11.out | with_reducible refine below_tr ?_ C10.out | with_reducible refine below_al ?_ | with_reducible exact below_rf | with_reducible refine below_dr ?_))⟩)
      case rest =>
        clear QF M0
        obtain ⟨bt, Zt, zt, yt, rfl, bget, H, zkt, Nt, HCB⟩ := hcut
        have FP_13 := Lib.hid (FP_9.out.below HCB (Nat.le_refl _)); clear FP_9
        have FQ_13 := Lib.hid (FQ_9.out.below HCB (Nat.le_refl _)); clear FQ_9
        have FT_13 := Lib.hid (FT_9.out.below HCB (Nat.le_refl _)); clear FT_9
        have FV_13 := Lib.hid (FV_9.out.below HCB (Nat.le_refl _)); clear FV_9
        have FR_13 := Lib.hid (FR_9.out.below HCB (Nat.le_refl _)); clear FR_9
        have FBp_13 := Lib.hid (FBp_9.out.below HCB (Nat.le_refl _)); clear FBp_9
        have FNp_13 := Lib.hid (FNp_9.out.below HCB (Nat.le_refl _)); clear FNp_9
        have FBq_13 := Lib.hid (FBq.out.below HCB (Nat.le_refl _)); clear FBq
        have FNq_13 := Lib.hid (FNq.out.below HCB (Nat.le_refl _)); clear FNq
        have HB13 := Lib.hid (HB9.out.trans (HCB.mono HB9.out.size)); clear HCB HB9
        have FBt := Lib.hid H; have FNt := Lib.hid Nt; clear H Nt
        have rnt : w.heap.size + 1 + 1 + 1 + 1 < bt := Nat.lt_of_lt_of_le rlq bget; clear bget
        have rlt := FR_13.out.lt
        go_upto_region 4 with (fail)
        have M0 := trivial
        have QF := Lib.hid (show ∀ w', Below wc.heap.size wc w' → w'.cell? ⟨w.heap.size, 0, none⟩ = some (.int .i64 ax) ∧ w'.cell? ⟨w.heap.size, 1, none⟩ = some (.int .i64 ay) ∧ w'.cell? ⟨w.heap.size + 1, 0, none⟩ = some (.int .i64 bx) ∧ w'.cell? ⟨w.heap.size + 1, 1, none⟩ = some (.int .i64 b_) ∧ w'.cell? ⟨w.heap.size + 1 + 1, 0, none⟩ = some (.int .i64 cx) ∧ w'.cell? ⟨w.heap.size + 1 + 1, 1, none⟩ = some (.int .i64 cy) ∧ w'.cell? ⟨w.heap.size + 1 + 1 + 1, 0, none⟩ = some (.int .i64 dx) ∧ w'.cell? ⟨w.heap.size + 1 + 1 + 1, 1, none⟩ = some (.int .i64 dy) from fun w' hb => ⟨(FP_13.out.below hb (Nat.le_refl _)).cell 0 (v := .int .i64 ax) rfl, (FP_13.out.below hb (Nat.le_refl _)).cell 1 (v := .int .i64 ay) rfl, (FQ_13.out.below hb (Nat.le_refl _)).cell 0 (v := .int .i64 bx) rfl, (FQ_13.out.below hb (Nat.le_refl _)).cell 1 (v := .int .i64 b_) rfl, (FT_13.out.below hb (Nat.le_refl _)).cell 0 (v := .int .i64 cx) rfl, (FT_13.out.below hb (Nat.le_refl _)).cell 1 (v := .int .i64 cy) rfl, (FV_13.out.below hb (Nat.le_refl _)).cell 0 (v := .int .i64 dx) rfl, (FV_13.out.below hb (Nat.le_refl _)).cell 1 (v := .int .i64 dy) rfl⟩)
        go_cut [12] (fun s12 wx => CutN wc ((dx * dx + dy * dy) * det ax ay bx b_ cx cy) 20 s12 wx)
        case first =>
          go_region_held3 (fun w' => w'.cell? ⟨w.heap.size, 0, none⟩ = some (.int .i64 ax) ∧ w'.cell? ⟨w.heap.size, 1, none⟩ = some (.int .i64 ay) ∧ w'.cell? ⟨w.heap.size + 1, 0, none⟩ = some (.int .i64 bx) ∧ w'.cell? ⟨w.heap.size + 1, 1, none⟩ = some (.int .i64 b_) ∧ w'.cell? ⟨w.heap.size + 1 + 1, 0, none⟩ = some (.int .i64 cx) ∧ w'.cell? ⟨w.heap.size + 1 + 1, 1, none⟩ = some (.int .i64 cy) ∧ w'.cell? ⟨w.heap.size + 1 + 1 + 1, 0, none⟩ = some (.int .i64 dx) ∧ w'.cell? ⟨w.heap.size + 1 + 1 + 1, 1, none⟩ = some (.int .i64 dy)) (first | (with_reducible refine QF.out _ ?_; (repeat (first | (with_reducible refine below_st ?_ ?_; (focus (first | with_reducible assumption | with_reducible exact Nat.le_refl _ | (simp; done) | omega | (simp <;> omega)))) | with_reducible refine below_tr ?_ C16.out | with_reducible refine below_tr ?_ C15.out | with_reducible refine below_tr ?_ C14.out | with_reducible refine below_al ?_ | with_reducible exact below_rf | with_reducible refine below_dr ?_)); done) | (with_reducible refine QF.out _ ?_; (repeat (first | (with_reducible refine below_st ?_ ?_; (focus (first | with_reducible assumption | with_reducible exact Nat.le_refl _ | (simp; done) | omega | (simp <;> omega)))) | with_reducible refine below_tr ?_ C15.out | with_reducible refine below_tr ?_ C14.out | with_reducible refine below_al ?_ | with_reducible exact below_rf | with_reducible refine below_dr ?_)); done) | (with_reducible refine QF.out _ ?_; (repeat (first | (with_reducible refine below_st ?_ ?_; (focus (first | with_reducible assumption | with_reducible exact Nat.le_refl _ | (simp; done) | omega | (simp <;> omega)))) | with_reducible refine below_tr ?_ C14.out | with_reducible refine below_al ?_ | with_reducible exact below_rf | with_reducible refine below_dr ?_)); done) | (with_reducible refine QF.out _ ?_; (repeat (first | (with_reducible refine below_st ?_ ?_; (focus (first | with_reducible assumption | with_reducible exact Nat.le_refl _ | (simp; done) | omega | (simp <;> omega)))) | with_reducible refine below_al ?_ | with_reducible exact below_rf | with_reducible refine below_dr ?_)); done)) (first
                      | (go_at_call 32; clear M2; have M3 := trivial; refine (ref3_Mul P1 P2 p1 g1 p2 g2 _ _ _ (fwd_nm GL.out (by (repeat (first | with_reducible exact below_rf | with_reducible refine below_al ?_ | with_reducible refine below_dr ?_)))) (fwd_nm GD.out (by (repeat (first | with_reducible exact below_rf | with_reducible refine below_al ?_ | with_reducible refine below_dr ?_)))) (by omega) (by omega)).mono ?_; rintro e w16 ⟨⟨P3, p3, g3, rfl, d3, M3⟩, B⟩; have C16 := Lib.hid B; clear B; have hs16 : wc.heap.size ≤ w16.heap.size := Below.size (B := wc.heap.size) (by (repeat (first | (with_reducible refine below_st ?_ ?_; (focus (first | with_reducible assumption | with_reducible exact Nat.le_refl _ | (simp; done) | omega | (simp <;> omega)))) | with_reducible refine below_tr ?_ C16.out | with_reducible refine below_tr ?_ C15.out | with_reducible refine below_tr ?_ C14.out | with_reducible refine below_al ?_ | with_reducible exact below_rf | with_reducible refine below_dr ?_))); have GL_ := Lib.hid (fwd_nm (w' := w16) GL.out (by (repeat (first | with_reducible exact below_rf | with_reducible refine below_tr ?_ C16.out | with_reducible refine below_al ?_ | with_reducible refine below_dr ?_)))); clear GL; have GL := Lib.hid GL_.out; clear GL_; have GD_ := Lib.hid (fwd_nm (w' := w16) GD.out (by (repeat (first | with_reducible exact below_rf | with_reducible refine below_tr ?_ C16.out | with_reducible refine below_al ?_ | with_reducible refine below_dr ?_)))); clear GD; have GD := Lib.hid GD_.out; clear GD_; have GM := Lib.hid M3; clear M3; (try (refine have_then (T := Bx w16 (wc.heap.size) #[.int .i64 0, .slice none 0 0] 41) ?_ (fun y16_0_0 => ?_); (focus ((repeat (first | (with_reducible refine bx_new ?_; (focus (first | with_reducible rfl | (simp; done)))) | with_reducible refine bx_tr ?_ C16.out | with_reducible refine bx_tr ?_ C15.out | with_reducible refine bx_tr ?_ C14.out | with_reducible refine bx_set2 (z0 := .slice none 0 0) (z1 := .slice none 0 0) ?_ | with_reducible refine bx_set2 (z0 := .int .i64 0) (z1 := .slice none 0 0) ?_ | with_reducible refine bx_set4 (z0 := .int .i64 0) (z1 := .slice none 0 0) (z2 := .int .i64 0) (z3 := .slice none 0 0) ?_ | (with_reducible refine bx_ot ?_ ?_; (focus (first | with_reducible assumption | with_reducible exact Nat.le_refl _ | (simp; done) | omega | (simp <;> omega)))) | with_reducible refine bx_al ?_ | with_reducible refine bx_dr ?_)); done)); have y16_0_0c0 := y16_0_0.cell 0 (v := .int .i64 0) rfl; have y16_0_0f0 := y16_0_0.free 0; have y16_0_0c1 := y16_0_0.cell 1 (v := .slice none 0 0) rfl; have y16_0_0f1 := y16_0_0.free 1; have y16_0_0l := y16_0_0.lt; have y16_0_0n := Nat.ne_of_lt y16_0_0l; have y16_0_0m := Nat.ne_of_gt y16_0_0l; have y16_0_0h := Lib.hid y16_0_0; clear y16_0_0)); (try (refine have_then (T := Bx w16 (w14.heap.size) #[.int .i64 0, .slice none 0 0] 41) ?_ (fun y16_1_0 => ?_); (focus ((repeat (first | (with_reducible refine bx_new ?_; (focus (first | with_reducible rfl | (simp; done)))) | with_reducible refine bx_tr ?_ C16.out | with_reducible refine bx_tr ?_ C15.out | with_reducible refine bx_tr ?_ C14.out | with_reducible refine bx_set2 (z0 := .slice none 0 0) (z1 := .slice none 0 0) ?_ | with_reducible refine bx_set2 (z0 := .int .i64 0) (z1 := .slice none 0 0) ?_ | with_reducible refine bx_set4 (z0 := .int .i64 0) (z1 := .slice none 0 0) (z2 := .int .i64 0) (z3 := .slice none 0 0) ?_ | (with_reducible refine bx_ot ?_ ?_; (focus (first | with_reducible assumption | with_reducible exact Nat.le_refl _ | (simp; done) | omega | (simp <;> omega)))) | with_reducible refine bx_al ?_ | with_reducible refine bx_dr ?_)); done)); have y16_1_0c0 := y16_1_0.cell 0 (v := .int .i64 0) rfl; have y16_1_0f0 := y16_1_0.free 0; have y16_1_0c1 := y16_1_0.cell 1 (v := .slice none 0 0) rfl; have y16_1_0f1 := y16_1_0.free 1; have y16_1_0l := y16_1_0.lt; have y16_1_0n := Nat.ne_of_lt y16_1_0l; have y16_1_0m := Nat.ne_of_gt y16_1_0l; have y16_1_0h := Lib.hid y16_1_0; clear y16_1_0)); (try (refine have_then (T := Bx w16 (w15.heap.size) #[.int .i64 0, .slice none 0 0] 41) ?_ (fun y16_2_0 => ?_); (focus ((repeat (first | (with_reducible refine bx_new ?_; (focus (first | with_reducible rfl | (simp; done)))) | with_reducible refine bx_tr ?_ C16.out | with_reducible refine bx_tr ?_ C15.out | with_reducible refine bx_tr ?_ C14.out | with_reducible refine bx_set2 (z0 := .slice none 0 0) (z1 := .slice none 0 0) ?_ | with_reducible refine bx_set2 (z0 := .int .i64 0) (z1 := .slice none 0 0) ?_ | with_reducible refine bx_set4 (z0 := .int .i64 0) (z1 := .slice none 0 0) (z2 := .int .i64 0) (z3 := .slice none 0 0) ?_ | (with_reducible refine bx_ot ?_ ?_; (focus (first | with_reducible assumption | with_reducible exact Nat.le_refl _ | (simp; done) | omega | (simp <;> omega)))) | with_reducible refine bx_al ?_ | with_reducible refine bx_dr ?_)); done)); have y16_2_0c0 := y16_2_0.cell 0 (v := .int .i64 0) rfl; have y16_2_0f0 := y16_2_0.free 0; have y16_2_0c1 := y16_2_0.cell 1 (v := .slice none 0 0) rfl; have y16_2_0f1 := y16_2_0.free 1; have y16_2_0l := y16_2_0.lt; have y16_2_0n := Nat.ne_of_lt y16_2_0l; have y16_2_0m := Nat.ne_of_gt y16_2_0l; have y16_2_0h := Lib.hid y16_2_0; clear y16_2_0)))
                      | (go_at_call 31; clear M1; have M2 := trivial; refine (ref6_Value ax ay bx b_ cx cy (show P3 ax ay bx b_ cx cy from ⟨hp.a, hp.b, hp.c, hp.d, hp.e, hp.f⟩) _).mono ?_; rintro e w15 ⟨⟨P2, p2, g2, rfl, d2, M2⟩, B⟩; have C15 := Lib.hid B; clear B; have hs15 : wc.heap.size ≤ w15.heap.size := Below.size (B := wc.heap.size) (by (repeat (first | (with_reducible refine below_st ?_ ?_; (focus (first | with_reducible assumption | with_reducible exact Nat.le_refl _ | (simp; done) | omega | (simp <;> omega)))) | with_reducible refine below_tr ?_ C15.out | with_reducible refine below_tr ?_ C14.out | with_reducible refine below_al ?_ | with_reducible exact below_rf | with_reducible refine below_dr ?_))); have GL_ := Lib.hid (fwd_nm (w' := w15) GL.out (by (repeat (first | with_reducible exact below_rf | with_reducible refine below_tr ?_ C15.out | with_reducible refine below_al ?_ | with_reducible refine below_dr ?_)))); clear GL; have GL := Lib.hid GL_.out; clear GL_; have GD := Lib.hid M2; clear M2; (try (refine have_then (T := Bx w15 (wc.heap.size) #[.int .i64 0, .slice none 0 0] 41) ?_ (fun y15_0_0 => ?_); (focus ((repeat (first | (with_reducible refine bx_new ?_; (focus (first | with_reducible rfl | (simp; done)))) | with_reducible refine bx_tr ?_ C15.out | with_reducible refine bx_tr ?_ C14.out | with_reducible refine bx_set2 (z0 := .slice none 0 0) (z1 := .slice none 0 0) ?_ | with_reducible refine bx_set2 (z0 := .int .i64 0) (z1 := .slice none 0 0) ?_ | with_reducible refine bx_set4 (z0 := .int .i64 0) (z1 := .slice none 0 0) (z2 := .int .i64 0) (z3 := .slice none 0 0) ?_ | (with_reducible refine bx_ot ?_ ?_; (focus (first | with_reducible assumption | with_reducible exact Nat.le_refl _ | (simp; done) | omega | (simp <;> omega)))) | with_reducible refine bx_al ?_ | with_reducible refine bx_dr ?_)); done)); have y15_0_0c0 := y15_0_0.cell 0 (v := .int .i64 0) rfl; have y15_0_0f0 := y15_0_0.free 0; have y15_0_0c1 := y15_0_0.cell 1 (v := .slice none 0 0) rfl; have y15_0_0f1 := y15_0_0.free 1; have y15_0_0l := y15_0_0.lt; have y15_0_0n := Nat.ne_of_lt y15_0_0l; have y15_0_0m := Nat.ne_of_gt y15_0_0l; have y15_0_0h := Lib.hid y15_0_0; clear y15_0_0)); (try (refine have_then (T := Bx w15 (w14.heap.size) #[.int .i64 0, .slice none 0 0] 41) ?_ (fun y15_1_0 => ?_); (focus ((repeat (first | (with_reducible refine bx_new ?_; (focus (first | with_reducible rfl | (simp; done)))) | with_reducible refine bx_tr ?_ C15.out | with_reducible refine bx_tr ?_ C14.out | with_reducible refine bx_set2 (z0 := .slice none 0 0) (z1 := .slice none 0 0) ?_ | with_reducible refine bx_set2 (z0 := .int .i64 0) (z1 := .slice none 0 0) ?_ | with_reducible refine bx_set4 (z0 := .int .i64 0) (z1 := .slice none 0 0) (z2 := .int .i64 0) (z3 := .slice none 0 0) ?_ | (with_reducible refine bx_ot ?_ ?_; (focus (first | with_reducible assumption | with_reducible exact Nat.le_refl _ | (simp; done) | omega | (simp <;> omega)))) | with_reducible refine bx_al ?_ | with_reducible refine bx_dr ?_)); done)); have y15_1_0c0 := y15_1_0.cell 0 (v := .int .i64 0) rfl; have y15_1_0f0 := y15_1_0.free 0; have y15_1_0c1 := y15_1_0.cell 1 (v := .slice none 0 0) rfl; have y15_1_0f1 := y15_1_0.free 1; have y15_1_0l := y15_1_0.lt; have y15_1_0n := Nat.ne_of_lt y15_1_0l; have y15_1_0m := Nat.ne_of_gt y15_1_0l; have y15_1_0h := Lib.hid y15_1_0; clear y15_1_0)))
                      | (go_at_call 33; clear M0; have M1 := trivial; refine (ref7_lift dx dy hp.g hp.h _).mono ?_; rintro e w14 ⟨⟨P1, p1, g1, rfl, d1, M1⟩, B⟩; have C14 := Lib.hid B; clear B; have hs14 : wc.heap.size ≤ w14.heap.size := Below.size (B := wc.heap.size) (by (repeat (first | (with_reducible refine below_st ?_ ?_; (focus (first | with_reducible assumption | with_reducible exact Nat.le_refl _ | (simp; done) | omega | (simp <;> omega)))) | with_reducible refine below_tr ?_ C14.out | with_reducible refine below_al ?_ | with_reducible exact below_rf | with_reducible refine below_dr ?_))); have GL := Lib.hid M1; clear M1; (try (refine have_then (T := Bx w14 (wc.heap.size) #[.int .i64 0, .slice none 0 0] 41) ?_ (fun y14_0_0 => ?_); (focus ((repeat (first | (with_reducible refine bx_new ?_; (focus (first | with_reducible rfl | (simp; done)))) | with_reducible refine bx_tr ?_ C14.out | with_reducible refine bx_set2 (z0 := .slice none 0 0) (z1 := .slice none 0 0) ?_ | with_reducible refine bx_set2 (z0 := .int .i64 0) (z1 := .slice none 0 0) ?_ | with_reducible refine bx_set4 (z0 := .int .i64 0) (z1 := .slice none 0 0) (z2 := .int .i64 0) (z3 := .slice none 0 0) ?_ | (with_reducible refine bx_ot ?_ ?_; (focus (first | with_reducible assumption | with_reducible exact Nat.le_refl _ | (simp; done) | omega | (simp <;> omega)))) | with_reducible refine bx_al ?_ | with_reducible refine bx_dr ?_)); done)); have y14_0_0c0 := y14_0_0.cell 0 (v := .int .i64 0) rfl; have y14_0_0f0 := y14_0_0.free 0; have y14_0_0c1 := y14_0_0.cell 1 (v := .slice none 0 0) rfl; have y14_0_0f1 := y14_0_0.free 1; have y14_0_0l := y14_0_0.lt; have y14_0_0n := Nat.ne_of_lt y14_0_0l; have y14_0_0m := Nat.ne_of_gt y14_0_0l; have y14_0_0h := Lib.hid y14_0_0; clear y14_0_0))))
          all_goals (go_wp2_with fail; go_meet; exact ⟨_, P3, p3, g3, rfl, (by first | with_reducible exact Nat.le_refl _ | with_reducible assumption | omega), by (repeat (first | with_reducible exact y16_0_0h.out | with_reducible exact y16_1_0h.out | with_reducible exact y16_2_0h.out | (with_reducible refine bx_set2 (z0 := .int .i64 0) (z1 := .slice none 0 0) ?_) | (with_reducible refine bx_new ?_; (focus (first | with_reducible rfl | (simp; done)))) | with_reducible refine bx_al ?_ | (with_reducible refine bx_ot ?_ ?_; (focus (first | with_reducible assumption | (simp; done) | omega | (simp <;> omega)))) | with_reducible refine bx_dr ?_)), by omega, by (repeat (first | with_reducible exact GM.out | (with_reducible refine nm_set2 (t := 41) (z0 := .int .i64 0) (z1 := .slice none 0 0) (by decide) ?_ ?_; (focus ((repeat (first | with_reducible exact y16_0_0h.out | with_reducible exact y16_1_0h.out | with_reducible exact y16_2_0h.out | (with_reducible refine bx_set2 (z0 := .int .i64 0) (z1 := .slice none 0 0) ?_) | (with_reducible refine bx_new ?_; (focus (first | with_reducible rfl | (simp; done)))) | with_reducible refine bx_al ?_ | (with_reducible refine bx_ot ?_ ?_; (focus (first | with_reducible assumption | (simp; done) | omega | (simp <;> omega)))) | with_reducible refine bx_dr ?_)); done))) | with_reducible refine nm_al ?_ | with_reducible refine nm_dr ?_)), by (repeat (first | (with_reducible refine below_st ?_ ?_; (focus (first | with_reducible assumption | with_reducible exact Nat.le_refl _ | (simp; done) | omega | (simp <;> omega)))) | with_reducible refine below_tr ?_ C16.out | with_reducible refine below_tr ?_ C15.out | with_reducible refine below_tr ?_ C14.out | with_reducible refine below_al ?_ | with_reducible exact below_rf | with_reducible refine below_dr ?_))⟩)
        case rest =>
          clear QF M0
          obtain ⟨bv, Zv, zv, yv, rfl, bgev, H, zkv, Nv, HCB⟩ := hcut
          have FP_17 := Lib.hid (FP_13.out.below HCB (Nat.le_refl _)); clear FP_13
          have FQ_17 := Lib.hid (FQ_13.out.below HCB (Nat.le_refl _)); clear FQ_13
          have FT_17 := Lib.hid (FT_13.out.below HCB (Nat.le_refl _)); clear FT_13
          have FV_17 := Lib.hid (FV_13.out.below HCB (Nat.le_refl _)); clear FV_13
          have FR_17 := Lib.hid (FR_13.out.below HCB (Nat.le_refl _)); clear FR_13
          have FBp_17 := Lib.hid (FBp_13.out.below HCB (Nat.le_refl _)); clear FBp_13
          have FNp_17 := Lib.hid (FNp_13.out.below HCB (Nat.le_refl _)); clear FNp_13
          have FBq_17 := Lib.hid (FBq_13.out.below HCB (Nat.le_refl _)); clear FBq_13
          have FNq_17 := Lib.hid (FNq_13.out.below HCB (Nat.le_refl _)); clear FNq_13
          have FBt_17 := Lib.hid (FBt.out.below HCB (Nat.le_refl _)); clear FBt
          have FNt_17 := Lib.hid (FNt.out.below HCB (Nat.le_refl _)); clear FNt
          have HB17 := Lib.hid (HB13.out.trans (HCB.mono HB13.out.size)); clear HCB HB13
          have FBv := Lib.hid H; have FNv := Lib.hid Nv; clear H Nv
          have rnv : w.heap.size + 1 + 1 + 1 + 1 < bv := Nat.lt_of_lt_of_le rlt bgev; clear bgev
          have rlv := FR_17.out.lt
          go_wp2_with fail
          have RB17 := Lib.hid (below_drew0 wc)
          have QS17 := Lib.hid (show wc.cell? ⟨bp, 0, none⟩ = some (.int .i64 (sg ((ax * ax + ay * ay) * det bx b_ cx cy dx dy))) ∧ wc.cell? ⟨bp, 1, none⟩ = some (.slice Zp zp yp) ∧ wc.cell? ⟨bq, 0, none⟩ = some (.int .i64 (sg ((bx * bx + b_ * b_) * det ax ay cx cy dx dy))) ∧ wc.cell? ⟨bq, 1, none⟩ = some (.slice Zq zq yq) ∧ wc.cell? ⟨bt, 0, none⟩ = some (.int .i64 (sg ((cx * cx + cy * cy) * det ax ay bx b_ dx dy))) ∧ wc.cell? ⟨bt, 1, none⟩ = some (.slice Zt zt yt) ∧ wc.cell? ⟨bv, 0, none⟩ = some (.int .i64 (sg ((dx * dx + dy * dy) * det ax ay bx b_ cx cy))) ∧ wc.cell? ⟨bv, 1, none⟩ = some (.slice Zv zv yv) from ⟨FBp_17.out.cell 0 (v := .int .i64 (sg ((ax * ax + ay * ay) * det bx b_ cx cy dx dy))) rfl, FBp_17.out.cell 1 (v := .slice Zp zp yp) rfl, FBq_17.out.cell 0 (v := .int .i64 (sg ((bx * bx + b_ * b_) * det ax ay cx cy dx dy))) rfl, FBq_17.out.cell 1 (v := .slice Zq zq yq) rfl, FBt_17.out.cell 0 (v := .int .i64 (sg ((cx * cx + cy * cy) * det ax ay bx b_ dx dy))) rfl, FBt_17.out.cell 1 (v := .slice Zt zt yt) rfl, FBv.out.cell 0 (v := .int .i64 (sg ((dx * dx + dy * dy) * det ax ay bx b_ cx cy))) rfl, FBv.out.cell 1 (v := .slice Zv zv yv) rfl⟩)
          have QF17 := Lib.hid (show ∀ w', Below wc.heap.size wc w' → w'.cell? ⟨bp, 0, none⟩ = some (.int .i64 (sg ((ax * ax + ay * ay) * det bx b_ cx cy dx dy))) ∧ w'.cell? ⟨bp, 1, none⟩ = some (.slice Zp zp yp) ∧ w'.cell? ⟨bq, 0, none⟩ = some (.int .i64 (sg ((bx * bx + b_ * b_) * det ax ay cx cy dx dy))) ∧ w'.cell? ⟨bq, 1, none⟩ = some (.slice Zq zq yq) ∧ w'.cell? ⟨bt, 0, none⟩ = some (.int .i64 (sg ((cx * cx + cy * cy) * det ax ay bx b_ dx dy))) ∧ w'.cell? ⟨bt, 1, none⟩ = some (.slice Zt zt yt) ∧ w'.cell? ⟨bv, 0, none⟩ = some (.int .i64 (sg ((dx * dx + dy * dy) * det ax ay bx b_ cx cy))) ∧ w'.cell? ⟨bv, 1, none⟩ = some (.slice Zv zv yv) from fun w' hb => ⟨(FBp_17.out.below hb (Nat.le_refl _)).cell 0 (v := .int .i64 (sg ((ax * ax + ay * ay) * det bx b_ cx cy dx dy))) rfl, (FBp_17.out.below hb (Nat.le_refl _)).cell 1 (v := .slice Zp zp yp) rfl, (FBq_17.out.below hb (Nat.le_refl _)).cell 0 (v := .int .i64 (sg ((bx * bx + b_ * b_) * det ax ay cx cy dx dy))) rfl, (FBq_17.out.below hb (Nat.le_refl _)).cell 1 (v := .slice Zq zq yq) rfl, (FBt_17.out.below hb (Nat.le_refl _)).cell 0 (v := .int .i64 (sg ((cx * cx + cy * cy) * det ax ay bx b_ dx dy))) rfl, (FBt_17.out.below hb (Nat.le_refl _)).cell 1 (v := .slice Zt zt yt) rfl, (FBv.out.below hb (Nat.le_refl _)).cell 0 (v := .int .i64 (sg ((dx * dx + dy * dy) * det ax ay bx b_ cx cy))) rfl, (FBv.out.below hb (Nat.le_refl _)).cell 1 (v := .slice Zv zv yv) rfl⟩)
          go_region_held3 (fun w' => w'.cell? ⟨bp, 0, none⟩ = some (.int .i64 (sg ((ax * ax + ay * ay) * det bx b_ cx cy dx dy))) ∧ w'.cell? ⟨bp, 1, none⟩ = some (.slice Zp zp yp) ∧ w'.cell? ⟨bq, 0, none⟩ = some (.int .i64 (sg ((bx * bx + b_ * b_) * det ax ay cx cy dx dy))) ∧ w'.cell? ⟨bq, 1, none⟩ = some (.slice Zq zq yq) ∧ w'.cell? ⟨bt, 0, none⟩ = some (.int .i64 (sg ((cx * cx + cy * cy) * det ax ay bx b_ dx dy))) ∧ w'.cell? ⟨bt, 1, none⟩ = some (.slice Zt zt yt) ∧ w'.cell? ⟨bv, 0, none⟩ = some (.int .i64 (sg ((dx * dx + dy * dy) * det ax ay bx b_ cx cy))) ∧ w'.cell? ⟨bv, 1, none⟩ = some (.slice Zv zv yv)) (first | with_reducible exact QF17.out _ RB20.out | with_reducible exact QF17.out _ RB19.out | with_reducible exact QF17.out _ RB18.out | with_reducible exact QS17.out | with_reducible exact QF17.out _ RB17.out | with_reducible exact ⟨keep_set (keep_set ((QF17.out _ RB20.out).1) (by simp <;> omega)) (by simp <;> omega), keep_set (keep_set ((QF17.out _ RB20.out).2.1) (by simp <;> omega)) (by simp <;> omega), keep_set (keep_set ((QF17.out _ RB20.out).2.2.1) (by simp <;> omega)) (by simp <;> omega), keep_set (keep_set ((QF17.out _ RB20.out).2.2.2.1) (by simp <;> omega)) (by simp <;> omega), keep_set (keep_set ((QF17.out _ RB20.out).2.2.2.2.1) (by simp <;> omega)) (by simp <;> omega), keep_set (keep_set ((QF17.out _ RB20.out).2.2.2.2.2.1) (by simp <;> omega)) (by simp <;> omega), keep_set (keep_set ((QF17.out _ RB20.out).2.2.2.2.2.2.1) (by simp <;> omega)) (by simp <;> omega), keep_set (keep_set ((QF17.out _ RB20.out).2.2.2.2.2.2.2) (by simp <;> omega)) (by simp <;> omega)⟩) (first
                      | (go_at_call 34; have := RB19; clear this; refine (ref3_AddZ P1 P2 p1 g1 p2 g2 _ _ _ (circ_ref ax ay bx b_ cx cy dx dy) _ RM1_19.out RM2_19.out (by omega) (by omega)).mono ?_; rintro e w20 ⟨⟨P3, p3, g3, rfl, d3, M3⟩, B⟩; have RB20 := Lib.hid (RB19.out.trans (B.mono RB19.out.size)); have RM1_20 := Lib.hid (RM1_19.out.below B (Nat.le_refl _)); have RM2_20 := Lib.hid (RM2_19.out.below B (Nat.le_refl _)); have RM3_20 := Lib.hid M3; clear B M3; have q0 := (FR_17.out.below RB20.out (Nat.le_refl _)).cell 0 (v := .int .i64 0) rfl; have q1 := (FR_17.out.below RB20.out (Nat.le_refl _)).cell 1 (v := .slice none 0 0) rfl; have z0 := (FR_17.out.below RB20.out (Nat.le_refl _)).free 0; have z1 := (FR_17.out.below RB20.out (Nat.le_refl _)).free 1)
                      | (go_at_call 35; have := RB18; clear this; refine (ref3_Sub Zt Zv zt yt zv yv _ _ _ (FNt_17.out.below RB18.out (Nat.le_refl _)) (FNv.out.below RB18.out (Nat.le_refl _)) (by omega) (by omega)).mono ?_; rintro e w19 ⟨⟨P2, p2, g2, rfl, d2, M2⟩, B⟩; have RB19 := Lib.hid (RB18.out.trans (B.mono RB18.out.size)); have RM1_19 := Lib.hid (RM1_18.out.below B (Nat.le_refl _)); have RM2_19 := Lib.hid M2; clear B M2)
                      | (go_at_call 35; have := RB17; clear this; refine (ref3_Sub Zp Zq zp yp zq yq _ _ _ (FNp_17.out.below RB17.out (Nat.le_refl _)) (FNq_17.out.below RB17.out (Nat.le_refl _)) (by omega) (by omega)).mono ?_; rintro e w18 ⟨⟨P1, p1, g1, rfl, d1, M1⟩, B⟩; have RB18 := Lib.hid (RB17.out.trans (B.mono RB17.out.size)); have RM1_18 := Lib.hid M1; clear B M1))
          have FP_20 := Lib.hid (FP_17.out.below RB20.out (Nat.le_refl _))
          have FQ_20 := Lib.hid (FQ_17.out.below RB20.out (Nat.le_refl _))
          have FT_20 := Lib.hid (FT_17.out.below RB20.out (Nat.le_refl _))
          have FV_20 := Lib.hid (FV_17.out.below RB20.out (Nat.le_refl _))
          have FR_20 := Lib.hid (FR_17.out.below RB20.out (Nat.le_refl _))
          have FBp_20 := Lib.hid (FBp_17.out.below RB20.out (Nat.le_refl _))
          have FNp_20 := Lib.hid (FNp_17.out.below RB20.out (Nat.le_refl _))
          have FBq_20 := Lib.hid (FBq_17.out.below RB20.out (Nat.le_refl _))
          have FNq_20 := Lib.hid (FNq_17.out.below RB20.out (Nat.le_refl _))
          have FBt_20 := Lib.hid (FBt_17.out.below RB20.out (Nat.le_refl _))
          have FNt_20 := Lib.hid (FNt_17.out.below RB20.out (Nat.le_refl _))
          have FBv_20 := Lib.hid (FBv.out.below RB20.out (Nat.le_refl _))
          have FNv_20 := Lib.hid (FNv.out.below RB20.out (Nat.le_refl _))
          have HB20 := Lib.hid (HB17.out.trans (RB20.out.mono HB17.out.size))
          clear HB17 FP_17 FQ_17 FT_17 FV_17 FR_17 FBp_17 FNp_17 FBq_17 FNq_17 FBt_17 FNt_17 FBv FNv
          go_wp2_with fail
          have r0 := FR_20.out
          have r1 := r0.set 0 (.int .i64 (sg (circ ax ay bx b_ cx cy dx dy)))
          refine bodyPost_ret (v := .agg #[.int .i64 (sg (circ ax ay bx b_ cx cy dx dy)), .slice P3 p3 g3]) (by simp [results, Tryz.results13, go_sem, q0, q1]) rfl ⟨⟨P3, p3, g3, rfl, by omega, ((RM3_20.out.setB r0 (by decide)).setB r1 (by decide))⟩, ?_⟩
          exact ((HB20.out.setCell (p := ⟨w.heap.size + 1 + 1 + 1 + 1, 0, none⟩) (by simp <;> omega) _).setCell (p := ⟨w.heap.size + 1 + 1 + 1 + 1, 1, none⟩) (by simp <;> omega) _)

set_option maxHeartbeats 2000000 in
theorem ref7_Side (ax ay bx b_ cx cy dx dy : Int) (hp : P4 ax ay bx b_ cx cy dx dy) (w : World) :
    Calls Tryz.prog 125 #[.agg #[.int .i64 ax, .int .i64 ay], .agg #[.int .i64 bx, .int .i64 b_], .agg #[.int .i64 cx, .int .i64 cy], .agg #[.int .i64 dx, .int .i64 dy]] w fun e w' => e = .returned (.int .i64 (sg (circ ax ay bx b_ cx cy dx dy) * sg (det ax ay bx b_ cx cy))) ∧ Below w.heap.size w w' := by
  have HB0 := Lib.hid (Below.refl w.heap.size w)
  have r1 := sign_range (circ ax ay bx b_ cx cy dx dy); have r2 := sign_range (det ax ay bx b_ cx cy)
  have hw := wrap_sg2 (circ ax ay bx b_ cx cy dx dy) (det ax ay bx b_ cx cy)
  have hfd : ∀ (s : Int) (V : Option Addr) (k c : Nat) (w : World), (Instr.field 41 (.agg #[.int .i64 s, .slice V k c]) 0).run Tryz.prog w = .ok (.int .i64 s) w := fun _ _ _ _ _ => by kernel_rfl
  go_enter Tryz.func125, Tryz.ntmps125
  go_wp2_with fail
  have B : Below w.heap.size w ((((w.alloc (.cells #[.int .i64 ax, .int .i64 ay] 23)).alloc (.cells #[.int .i64 bx, .int .i64 b_] 23)).alloc (.cells #[.int .i64 cx, .int .i64 cy] 23)).alloc (.cells #[.int .i64 dx, .int .i64 dy] 23)) := ((((HB0.out.alloc HB0.out.size _).alloc (HB0.out.alloc HB0.out.size _).size _).alloc ((HB0.out.alloc HB0.out.size _).alloc (HB0.out.alloc HB0.out.size _).size _).size _).alloc (((HB0.out.alloc HB0.out.size _).alloc (HB0.out.alloc HB0.out.size _).size _).alloc ((HB0.out.alloc HB0.out.size _).alloc (HB0.out.alloc HB0.out.size _).size _).size _).size _)
  have C : Below w.heap.size w ((((w.alloc (.cells #[.int .i64 ax, .int .i64 ay] 23)).alloc (.cells #[.int .i64 bx, .int .i64 b_] 23)).alloc (.cells #[.int .i64 cx, .int .i64 cy] 23)).alloc (.cells #[.int .i64 dx, .int .i64 dy] 23)) := (((((Below.refl w.heap.size w).alloc (Nat.le_refl _) _).alloc (by simp; try omega) _).alloc (by simp; try omega) _).alloc (by simp; try omega) _)
  have X0 : Bx ((((w.alloc (.cells #[.int .i64 ax, .int .i64 ay] 23)).alloc (.cells #[.int .i64 bx, .int .i64 b_] 23)).alloc (.cells #[.int .i64 cx, .int .i64 cy] 23)).alloc (.cells #[.int .i64 dx, .int .i64 dy] 23)) (w.heap.size) #[.int .i64 ax, .int .i64 ay] 23 := by simpa using ((((Bx.new w #[.int .i64 ax, .int .i64 ay] 23).alloc _).alloc _).alloc _)
  have X1 : Bx ((((w.alloc (.cells #[.int .i64 ax, .int .i64 ay] 23)).alloc (.cells #[.int .i64 bx, .int .i64 b_] 23)).alloc (.cells #[.int .i64 cx, .int .i64 cy] 23)).alloc (.cells #[.int .i64 dx, .int .i64 dy] 23)) (w.heap.size + 1) #[.int .i64 bx, .int .i64 b_] 23 := by simpa using (((Bx.new (w.alloc (.cells #[.int .i64 ax, .int .i64 ay] 23)) #[.int .i64 bx, .int .i64 b_] 23).alloc _).alloc _)
  have X2 : Bx ((((w.alloc (.cells #[.int .i64 ax, .int .i64 ay] 23)).alloc (.cells #[.int .i64 bx, .int .i64 b_] 23)).alloc (.cells #[.int .i64 cx, .int .i64 cy] 23)).alloc (.cells #[.int .i64 dx, .int .i64 dy] 23)) (w.heap.size + 1 + 1) #[.int .i64 cx, .int .i64 cy] 23 := by simpa using ((Bx.new ((w.alloc (.cells #[.int .i64 ax, .int .i64 ay] 23)).alloc (.cells #[.int .i64 bx, .int .i64 b_] 23)) #[.int .i64 cx, .int .i64 cy] 23).alloc _)
  have X3 : Bx ((((w.alloc (.cells #[.int .i64 ax, .int .i64 ay] 23)).alloc (.cells #[.int .i64 bx, .int .i64 b_] 23)).alloc (.cells #[.int .i64 cx, .int .i64 cy] 23)).alloc (.cells #[.int .i64 dx, .int .i64 dy] 23)) (w.heap.size + 1 + 1 + 1) #[.int .i64 dx, .int .i64 dy] 23 := by simpa using (Bx.new (((w.alloc (.cells #[.int .i64 ax, .int .i64 ay] 23)).alloc (.cells #[.int .i64 bx, .int .i64 b_] 23)).alloc (.cells #[.int .i64 cx, .int .i64 cy] 23)) #[.int .i64 dx, .int .i64 dy] 23)
  have HB1 := Lib.hid B
  have FP_1 := Lib.hid X0
  have FQ_1 := Lib.hid X1
  have FT_1 := Lib.hid X2
  have FV_1 := Lib.hid X3
  clear B C X0 X1 X2 X3 HB0 
  generalize ((((w.alloc (.cells #[.int .i64 ax, .int .i64 ay] 23)).alloc (.cells #[.int .i64 bx, .int .i64 b_] 23)).alloc (.cells #[.int .i64 cx, .int .i64 cy] 23)).alloc (.cells #[.int .i64 dx, .int .i64 dy] 23)) = w1 at *
  have RB1 := Lib.hid (below_drew0 w1)
  have QS1 := Lib.hid (show w1.cell? ⟨w.heap.size, 0, none⟩ = some (.int .i64 ax) ∧ w1.cell? ⟨w.heap.size, 1, none⟩ = some (.int .i64 ay) ∧ w1.cell? ⟨w.heap.size + 1, 0, none⟩ = some (.int .i64 bx) ∧ w1.cell? ⟨w.heap.size + 1, 1, none⟩ = some (.int .i64 b_) ∧ w1.cell? ⟨w.heap.size + 1 + 1, 0, none⟩ = some (.int .i64 cx) ∧ w1.cell? ⟨w.heap.size + 1 + 1, 1, none⟩ = some (.int .i64 cy) ∧ w1.cell? ⟨w.heap.size + 1 + 1 + 1, 0, none⟩ = some (.int .i64 dx) ∧ w1.cell? ⟨w.heap.size + 1 + 1 + 1, 1, none⟩ = some (.int .i64 dy) from ⟨FP_1.out.cell 0 (v := .int .i64 ax) rfl, FP_1.out.cell 1 (v := .int .i64 ay) rfl, FQ_1.out.cell 0 (v := .int .i64 bx) rfl, FQ_1.out.cell 1 (v := .int .i64 b_) rfl, FT_1.out.cell 0 (v := .int .i64 cx) rfl, FT_1.out.cell 1 (v := .int .i64 cy) rfl, FV_1.out.cell 0 (v := .int .i64 dx) rfl, FV_1.out.cell 1 (v := .int .i64 dy) rfl⟩)
  have QF1 := Lib.hid (show ∀ w', Below w1.heap.size w1 w' → w'.cell? ⟨w.heap.size, 0, none⟩ = some (.int .i64 ax) ∧ w'.cell? ⟨w.heap.size, 1, none⟩ = some (.int .i64 ay) ∧ w'.cell? ⟨w.heap.size + 1, 0, none⟩ = some (.int .i64 bx) ∧ w'.cell? ⟨w.heap.size + 1, 1, none⟩ = some (.int .i64 b_) ∧ w'.cell? ⟨w.heap.size + 1 + 1, 0, none⟩ = some (.int .i64 cx) ∧ w'.cell? ⟨w.heap.size + 1 + 1, 1, none⟩ = some (.int .i64 cy) ∧ w'.cell? ⟨w.heap.size + 1 + 1 + 1, 0, none⟩ = some (.int .i64 dx) ∧ w'.cell? ⟨w.heap.size + 1 + 1 + 1, 1, none⟩ = some (.int .i64 dy) from fun w' hb => ⟨(FP_1.out.below hb (Nat.le_refl _)).cell 0 (v := .int .i64 ax) rfl, (FP_1.out.below hb (Nat.le_refl _)).cell 1 (v := .int .i64 ay) rfl, (FQ_1.out.below hb (Nat.le_refl _)).cell 0 (v := .int .i64 bx) rfl, (FQ_1.out.below hb (Nat.le_refl _)).cell 1 (v := .int .i64 b_) rfl, (FT_1.out.below hb (Nat.le_refl _)).cell 0 (v := .int .i64 cx) rfl, (FT_1.out.below hb (Nat.le_refl _)).cell 1 (v := .int .i64 cy) rfl, (FV_1.out.below hb (Nat.le_refl _)).cell 0 (v := .int .i64 dx) rfl, (FV_1.out.below hb (Nat.le_refl _)).cell 1 (v := .int .i64 dy) rfl⟩)
  go_region_held3 (fun w' => w'.cell? ⟨w.heap.size, 0, none⟩ = some (.int .i64 ax) ∧ w'.cell? ⟨w.heap.size, 1, none⟩ = some (.int .i64 ay) ∧ w'.cell? ⟨w.heap.size + 1, 0, none⟩ = some (.int .i64 bx) ∧ w'.cell? ⟨w.heap.size + 1, 1, none⟩ = some (.int .i64 b_) ∧ w'.cell? ⟨w.heap.size + 1 + 1, 0, none⟩ = some (.int .i64 cx) ∧ w'.cell? ⟨w.heap.size + 1 + 1, 1, none⟩ = some (.int .i64 cy) ∧ w'.cell? ⟨w.heap.size + 1 + 1 + 1, 0, none⟩ = some (.int .i64 dx) ∧ w'.cell? ⟨w.heap.size + 1 + 1 + 1, 1, none⟩ = some (.int .i64 dy)) (first | with_reducible exact QF1.out _ RB3.out | with_reducible exact QF1.out _ RB2.out | with_reducible exact QS1.out | with_reducible exact QF1.out _ RB1.out) (first
      | (go_at_call 12; have := RB2; clear this; refine (ref6_Sign _ _ _ _ _ _ ⟨hp.a, hp.b, hp.c, hp.d, hp.e, hp.f⟩ _).mono ?_; rintro e w3 ⟨rfl, B⟩; have RB3 := Lib.hid (RB2.out.trans (B.mono RB2.out.size)); clear B )
      | (go_at_call 13; have := RB1; clear this; refine (ref7_Value _ _ _ _ _ _ _ _ hp _).mono ?_; rintro e w2 ⟨⟨P1, p1, g1, rfl, d1, M1⟩, B⟩; have RB2 := Lib.hid (RB1.out.trans (B.mono RB1.out.size)); clear B ; clear M1))
  have FP_3 := Lib.hid (FP_1.out.below RB3.out (Nat.le_refl _))
  have FQ_3 := Lib.hid (FQ_1.out.below RB3.out (Nat.le_refl _))
  have FT_3 := Lib.hid (FT_1.out.below RB3.out (Nat.le_refl _))
  have FV_3 := Lib.hid (FV_1.out.below RB3.out (Nat.le_refl _))
  have HB3 := Lib.hid (HB1.out.trans (RB3.out.mono HB1.out.size))
  clear HB1 FP_1 FQ_1 FT_1 FV_1
  go_wp2_with fail
  go_ret
  exact ⟨rfl, HB3.out⟩

end Go.Proofs.YtjdiilkljgljkaaGreatDoor
namespace Go.Proofs.YtjdiilkljgljkaaGreatDoor
set_option linter.unusedVariables false
set_option linter.unusedSimpArgs false
open Go.RowKit Wd

theorem getO_of {xs : Array Value} {t : Nat} {v : Value} (h : xs[t]? = some v) : xs[t]?.getD undef = v := by rw [h]; rfl
/-- one operation, none being let out -/
def wpOpP (P : Program) (ops : Array Oper) (Q : Exit → Act → World → Prop) (i : Nat) (K : Act → World → Prop) (a : Act) (w : World) : Prop :=
  match ops[i]? with
  | none => K a w
  | some o => if Region.wanted o (yielded ops a.tmps) then o.wp P a w K Q else K (a.put o.dst undef) w

section
variable {P : Program} {ops : Array Oper} {Q : Exit → Act → World → Prop} {n : Nat}
theorem wpOpP_step {i : Nat} {o : Oper} {K : Act → World → Prop} {a : Act} {w : World} (ho : ops[i]? = some o)
    (h : ∀ K' : Act → World → Prop, (∀ a w, K a w → K' a w) → if Region.wanted o (yielded ops a.tmps) = true then Oper.wp P o a w K' Q else K' (a.put o.dst undef) w) : wpOpP P ops Q i K a w := by
  have := h K (fun _ _ h => h)
  unfold wpOpP
  rw [ho]
  exact this

/-- the wide fence, in a round or not -/
structure WideF (F : Fence) : Prop where
  fn : ∀ f, F.fn f
  depth : F.depth = none
  calls : ∀ {P : Program} {n f : Nat} {args : Array Value} {w : World} {R : Ending → World → Prop}, Calls P f args w R → CallsIn F n P f args w R
  rows : ∀ {P : Program} {n : Nat} {row : String} {args : Array Value} {w : World} {R : Value → World → Prop}, Rows P row args w R → RowsIn F n P row args w R
theorem rowsIn_wide {n : Nat} {row : String} {args : Array Value} {w : World} {R : Value → World → Prop} (h : Rows P row args w R) : RowsIn Fence.wide n P row args w R :=
  fun c cs _ => let ⟨v, w', r, s⟩ := h c cs; ⟨v, w', r, stepsIn_wide.2 s⟩
theorem WideF.wide : WideF Fence.wide := ⟨fun _ => trivial, rfl, fun h => callsIn_wide.2 h, fun h => rowsIn_wide h⟩
theorem WideF.round (l : Nat) : WideF (Fence.wide.inRound l) := ⟨fun _ => trivial, rfl, fun h => CallsIn.inRound l (callsIn_wide.2 h), fun h => rowsIn_wide h⟩

theorem wpIn_of_wp {F : Fence} (hF : WideF F) {o : Oper} (hd : ∀ c, o.op ≠ .defer c) {a : Act} {w : World} {K : Act → World → Prop} (h : o.wp P a w K Q) : o.wpIn F n P a w K Q := by
  unfold Oper.wpIn
  refine ⟨fun f _ => hF.fn f, ?_⟩
  rw [Oper.semAt_eq _ _ _ hd]
  unfold Oper.wp at h
  generalize (execOp a.eval o).run P w = r at *
  cases r with
  | ok x w' =>
    cases x <;> simp only [Oper.upon, Oper.uponIn] at h ⊢
    all_goals first
      | exact h
      | exact ⟨fun hh => by rw [hF.depth] at hh; simp at hh, hF.rows h⟩
      | exact False.elim h
      | skip
    refine ⟨fun hh => by rw [hF.depth] at hh; simp at hh, hF.calls (Calls.mono h ?_)⟩
    intro e w'' he
    cases e <;> exact he
  | halt x w' => cases x <;> simp only [Oper.upon, Oper.uponIn] at h ⊢ <;> exact h
def noDefer (ops : Array Oper) : Bool := ops.all fun o => match o.op with | .defer _ => false | _ => true
theorem noDefer_spec (h : noDefer ops = true) {i : Nat} {o : Oper} (ho : ops[i]? = some o) : ∀ c, o.op ≠ .defer c := by
  intro c e
  unfold noDefer at h
  rw [Array.all_eq_true_iff_forall_mem] at h
  have := h o (Array.mem_of_getElem? ho)
  rw [e] at this
  cases this
theorem wpOpIn_of_P {F : Fence} (hF : WideF F) (hnd : noDefer ops = true) {i : Nat} {a : Act} {w : World} {K : Act → World → Prop} (h : wpOpP P ops Q i K a w) : wpOpIn F n P ops Q i K a w := by
  unfold wpOpP at h
  unfold wpOpIn
  cases ho : ops[i]? with
  | none => rw [ho] at h; exact h
  | some o =>
    rw [ho] at h
    show if Region.wanted o (yielded ops a.tmps) = true then _ else _
    have h' : if Region.wanted o (yielded ops a.tmps) = true then o.wp P a w K Q else K (a.put o.dst undef) w := h
    split
    · rename_i hw; rw [if_pos hw] at h'; exact wpIn_of_wp hF (noDefer_spec hnd ho) h'
    · rename_i hw; rw [if_neg hw] at h'; exact ⟨fun f _ => hF.fn f, h'⟩

theorem wpAnyIn_inv {F : Fence} {md : Region.Mode} (I : Array Bool → Act → World → Prop) (hord : ordB md ops = true)
    (hstep : ∀ (listed : Array Bool) (a : Act) (w : World) (i : Nat) (o : Oper), listed.size = ops.size → ops[i]? = some o → listed.getD i true = false → (∀ e ∈ o.after, Region.binds md e = true → listed.getD e.on false = true) →
      I listed a w → wpOpIn F n P ops Q i (I (listed.setIfInBounds i true)) a w)
    (hend : ∀ (listed : Array Bool) (a : Act) (w : World), listed.size = ops.size → (∀ i, i < ops.size → listed.getD i false = true) → I listed a w → Q .normal a w) :
    ∀ (fuel : Nat) (listed : Array Bool) (a : Act) (w : World), listed.size = ops.size → unl listed ≤ fuel → I listed a w → wpAnyIn F n P md ops Q fuel listed a w := by
  intro fuel
  induction fuel with
  | zero =>
    intro listed a w hs hu hI
    have hall := all_of_unl (l := listed) (by omega)
    refine ⟨?_, hend _ _ _ hs (fun i hi => hall i (by omega)) hI⟩
    rw [List.eq_nil_iff_forall_not_mem]
    intro i hi
    obtain ⟨h0, o, ho, _⟩ := mem_ready.1 hi
    obtain ⟨hi', he⟩ := getD_lt h0
    have := hall i hi'
    simp [Array.getD, hi', he] at this
  | succ fuel ih =>
    intro listed a w hs hu hI
    refine ⟨fun hr => hend _ _ _ hs (all_of_ready hord hs hr) hI, fun i hi => ?_⟩
    obtain ⟨h0, o, ho, hp⟩ := mem_ready.1 hi
    refine wpOpIn_mono (fun a' w' h' => ih _ a' w' (by simpa using hs) (by have := unl_set h0; omega) h') (hstep listed a w i o hs ho h0 hp hI)

/-- each operation ahead of m yields a value; whoever comes at m or behind it waits for all ahead -/
def tailB (ops : Array Oper) (m : Nat) (vs : List (Nat × Nat)) (n : Nat) : Bool :=
  ordB .any ops && noDefer ops && decide (m ≤ ops.size) && decide ((vs.map (·.2)).Nodup) && decide ((vs.map (·.1)).Nodup) && vs.all (fun v => decide (v.1 < m) && decide (v.2 < n)) &&
  ((List.range m).all fun i => vs.any fun v => v.1 == i) && (decide (m = ops.size) || (List.range m).all fun j => (List.range (m + 1)).any fun i => decide (j < i) && depB ops i j) &&
  (List.range ops.size).all fun i => decide (i ≤ m) || depB ops i (i - 1)

/-- the values of all, put in -/
theorem fold_vals {vs : List ValD} {a a0 : Act} (hvinj : ∀ u ∈ vs, ∀ v ∈ vs, u.slot = v.slot → u = v) (hlt : ∀ v ∈ vs, v.slot < a0.tmps.size) (j2 : a.tmps.size = a0.tmps.size) (j3 : a.defers = a0.defers)
    (j4 : ∀ t, (vs.map (·.slot)).contains t = false → a.tmps[t]? = a0.tmps[t]?) (hX : ∀ v ∈ vs, ∃ x, a.tmps[v.slot]? = some x) :
    a = vs.foldl (fun b v => b.put (some v.slot) ((a.tmps[v.slot]?).getD undef)) a0 := by
  have hfv : ∀ (X : Nat → Value) (l : List ValD) (a1 : Act), (∀ v ∈ l, v.slot < a1.tmps.size) → (l.foldl (fun a v => a.put (some v.slot) (X v.slot)) a1).defers = a1.defers ∧ (l.foldl (fun a v => a.put (some v.slot) (X v.slot)) a1).tmps.size = a1.tmps.size ∧
      ∀ t, (l.foldl (fun a v => a.put (some v.slot) (X v.slot)) a1).tmps[t]? = if t ∈ l.map (·.slot) then some (X t) else a1.tmps[t]? := fun X l => by
    induction l with
    | nil => intro a1 _; exact ⟨rfl, rfl, fun t => by simp⟩
    | cons x xs ih =>
      intro a1 h
      have hx := h x (by simp)
      have hs : (a1.put (some x.slot) (X x.slot)).tmps.size = a1.tmps.size := by simp [Act.put]
      obtain ⟨h1, h2, h3⟩ := ih (a1.put (some x.slot) (X x.slot)) (fun b hb => by rw [hs]; exact h b (List.mem_cons_of_mem _ hb))
      simp only [List.foldl_cons]
      refine ⟨h1.trans rfl, h2.trans hs, fun t => ?_⟩
      rw [h3 t, act_put_get hx]
      simp only [List.map_cons, List.mem_cons]
      by_cases e : t ∈ xs.map (·.slot)
      · simp [e]
      · by_cases e2 : x.slot = t
        · subst e2; simp [e]
        · simp [e, e2, Ne.symm e2]
  obtain ⟨f1, f2, f3⟩ := hfv (fun t => (a.tmps[t]?).getD undef) vs a0 hlt
  have ht : a.tmps = (vs.foldl (fun b v => b.put (some v.slot) ((a.tmps[v.slot]?).getD undef)) a0).tmps := by
    apply Array.ext_getElem?
    intro t
    rw [f3 t]
    by_cases e : t ∈ vs.map (·.slot)
    · rw [if_pos e]
      obtain ⟨v, hv, rfl⟩ := List.mem_map.1 e
      obtain ⟨x, hx⟩ := hX v hv
      rw [hx]; rfl
    · rw [if_neg e]
      refine j4 t ?_
      cases hc : (vs.map (·.slot)).contains t with
      | false => rfl
      | true => rw [List.contains_iff_mem] at hc; exact absurd hc e
  have hdf := j3.trans f1.symm
  revert ht hdf
  generalize vs.foldl (fun b v => b.put (some v.slot) ((a.tmps[v.slot]?).getD undef)) a0 = a1
  cases a; cases a1
  intro ht hdf
  simp only at ht hdf
  subst ht hdf
  rfl

/-- E: how worlds follow on each other within the region (Eq: reads alone; Below: calls) -/
theorem wpAnyIn_tail {F : Fence} (hF : WideF F) (E : World → World → Prop) (hE0 : ∀ w, E w w) (hEt : ∀ a b c, E a b → E b c → E a c) {a0 : Act} {w0 : World} (vs : List ValD) (m : Nat) (hV : tailB ops m (vs.map fun v => (v.op, v.slot)) a0.tmps.size = true)
    (hsv : allP (fun v => ∀ x w w', E w w' → v.P x w → v.P x w') vs)
    (hval : allP (fun v => ∀ (a : Act) (w : World) K, E w0 w → (∀ t, (vs.map (·.slot)).contains t = false → a.tmps[t]? = a0.tmps[t]?) → (∀ (k : Nat) (u : ValD), vs[k]? = some u → depB ops v.op u.op = true → ∃ x, a.tmps[u.slot]? = some x ∧ u.P x w) →
      (∀ x w', E w w' → v.P x w' → K (a.put (some v.slot) x) w') → wpOpP P ops Q v.op K a w) vs)
    (hend : ∀ w (X : Nat → Value), E w0 w → allP (fun v => v.P (X v.slot) w) vs →
      wpListIn F n P ops Q (ops.toList.drop m) (vs.foldl (fun a v => a.put (some v.slot) (X v.slot)) a0) w) :
    wpAnyIn F n P .any ops Q ops.size (Array.replicate ops.size false) a0 w0 := by
  simp only [tailB, Bool.and_eq_true, decide_eq_true_eq, List.all_eq_true, List.map_map, Bool.or_eq_true] at hV
  obtain ⟨⟨⟨⟨⟨⟨⟨⟨hord, hnd⟩, hm⟩, n1⟩, n2⟩, n3⟩, n4⟩, n5⟩, n6⟩ := hV
  have v3 : ∀ v ∈ vs, v.op < m ∧ v.slot < a0.tmps.size := fun v hv => n3 (v.op, v.slot) (List.mem_map.2 ⟨v, hv, rfl⟩)
  have hvinj : ∀ u ∈ vs, ∀ v ∈ vs, u.slot = v.slot → u = v := fun u hu v hv e => nodup_inj (f := ValD.slot) (by have h := n1; exact h) hu hv e
  have hoinj : ∀ u ∈ vs, ∀ v ∈ vs, u.op = v.op → u = v := fun u hu v hv e => nodup_inj (f := ValD.op) (by have h := n2; exact h) hu hv e
  have hdep : ∀ {i j : Nat} {o : Oper} {listed : Array Bool}, ops[i]? = some o → (∀ e ∈ o.after, Region.binds .any e = true → listed.getD e.on false = true) → depB ops i j = true → listed.getD j false = true := fun {i j o listed} ho hp hd => by
    unfold depB at hd
    rw [ho] at hd
    simp only [Option.map_some, Option.getD_some, Array.any_eq_true'] at hd
    obtain ⟨e, he, h5⟩ := hd
    simp only [Bool.and_eq_true, beq_iff_eq] at h5
    exact h5.2 ▸ hp e he h5.1
  have hdl : ∀ {i j : Nat}, depB ops i j = true → i < ops.size := fun {i j} hd => by
    unfold depB at hd
    cases ho : ops[i]? with
    | none => rw [ho] at hd; simp at hd
    | some o => exact (Array.getElem?_eq_some_iff.1 ho).1
  -- the operations at m and behind it, in their order
  have hops : ∀ k, k ≤ ops.size → wpOpsIn F n P ops Q (List.range' k (ops.size - k)) = wpListIn F n P ops Q (ops.toList.drop k) := fun k hk => by
    have := wpOpsIn_eq_wpListIn (F := F) (n := n) (P := P) (ops := ops) (Q := Q) (ops.toList.drop k) k (fun j => by simp)
    rwa [List.length_drop, Array.length_toList] at this
  refine wpAnyIn_inv (fun listed a w => (∀ i o, ops[i]? = some o → listed.getD i false = true → ∀ e ∈ o.after, Region.binds .any e = true → listed.getD e.on false = true) ∧
      (((∀ i, m ≤ i → listed.getD i false = false) ∧ E w0 w ∧ a.tmps.size = a0.tmps.size ∧ a.defers = a0.defers ∧ (∀ t, (vs.map (·.slot)).contains t = false → a.tmps[t]? = a0.tmps[t]?) ∧
        ∀ v ∈ vs, listed.getD v.op false = true → ∃ x, a.tmps[v.slot]? = some x ∧ v.P x w) ∨
      ∃ k, m < k ∧ k ≤ ops.size ∧ (∀ j, j < ops.size → (listed.getD j false = true ↔ j < k)) ∧ wpOpsIn F n P ops Q (List.range' k (ops.size - k)) a w)) hord ?_ ?_ ops.size _ a0 w0 (by simp) (by unfold unl; exact Nat.le_trans List.countP_le_length (by simp)) ?_
  · rintro listed a w i o hsz ho hi hp ⟨hcl, h⟩
    have hil : i < ops.size := (Array.getElem?_eq_some_iff.1 ho).1
    have hset : ∀ j, (listed.setIfInBounds i true).getD j false = true ↔ j = i ∨ listed.getD j false = true := fun j => by
      by_cases e : i = j
      · subst e; simp [Array.getD, hsz, hil]
      · rw [getD_set_ne false e]; constructor
        · exact .inr
        · rintro (h | h)
          · exact absurd h.symm e
          · exact h
    have hcl' : ∀ j o', ops[j]? = some o' → (listed.setIfInBounds i true).getD j false = true → ∀ e ∈ o'.after, Region.binds .any e = true → (listed.setIfInBounds i true).getD e.on false = true := fun j o' hj hl e he hb => by
      rcases (hset j).1 hl with rfl | h2
      · rw [ho] at hj; cases hj
        exact (hset _).2 (.inr (hp e he hb))
      · exact (hset _).2 (.inr (hcl j o' hj h2 e he hb))
    have hpi : listed.getD i false = false := getD_false_of hi
    -- the tail's next operation
    have htail : ∀ k, k ≤ ops.size → m ≤ k → i = k → (∀ j, j < ops.size → (listed.getD j false = true ↔ j < k)) → wpOpsIn F n P ops Q (List.range' k (ops.size - k)) a w →
        wpOpIn F n P ops Q i (fun a' w' => (∀ i' o, ops[i']? = some o → (listed.setIfInBounds i true).getD i' false = true → ∀ e ∈ o.after, Region.binds .any e = true → (listed.setIfInBounds i true).getD e.on false = true) ∧
          (((∀ i', m ≤ i' → (listed.setIfInBounds i true).getD i' false = false) ∧ E w0 w' ∧ a'.tmps.size = a0.tmps.size ∧ a'.defers = a0.defers ∧ (∀ t, (vs.map (·.slot)).contains t = false → a'.tmps[t]? = a0.tmps[t]?) ∧
            ∀ v ∈ vs, (listed.setIfInBounds i true).getD v.op false = true → ∃ x, a'.tmps[v.slot]? = some x ∧ v.P x w') ∨
          ∃ k, m < k ∧ k ≤ ops.size ∧ (∀ j, j < ops.size → ((listed.setIfInBounds i true).getD j false = true ↔ j < k)) ∧ wpOpsIn F n P ops Q (List.range' k (ops.size - k)) a' w')) a w := fun k hk hmk hik hlt hw => by
      subst hik
      rw [show ops.size - i = (ops.size - (i + 1)) + 1 by omega, List.range'_succ, wpOpsIn_cons] at hw
      refine wpOpIn_mono (fun a' w' h' => ⟨hcl', .inr ⟨i + 1, by omega, by omega, fun j hj => ?_, h'⟩⟩) hw
      rw [hset j, hlt j hj]; omega
    rcases h with ⟨h1, j1, j2, j3, j4, j5⟩ | ⟨k, hk1, hk2, hk3, hk4⟩
    · by_cases him : i < m
      · have h5 := n4 i (List.mem_range.2 him)
        rw [List.any_eq_true] at h5
        obtain ⟨q, hq, he⟩ := h5
        simp only [beq_iff_eq] at he
        obtain ⟨v, hv, rfl⟩ := List.mem_map.1 hq
        subst he
        refine wpOpIn_of_P hF hnd (hval.mem v hv a w _ j1 j4 (fun k u hu hd => j5 u (List.mem_of_getElem? hu) (hdep ho hp hd)) (fun x w' hbl hx => ⟨hcl', .inl ⟨fun i' hi' => ?_, hEt _ _ _ j1 hbl, by simp [Act.put, j2], j3, fun t ht => ?_, fun u hu hl => ?_⟩⟩))
        · rw [getD_set_ne false (by have := (v3 v hv).1; show v.op ≠ i'; omega)]; exact h1 i' hi'
        · have hne : v.slot ≠ t := fun e => by
            have hc : (vs.map (·.slot)).contains t = true := by
              rw [List.contains_iff_mem]; exact List.mem_map.2 ⟨_, hv, e⟩
            rw [hc] at ht; cases ht
          show (a.tmps.setIfInBounds v.slot _)[t]? = _
          rw [Array.getElem?_setIfInBounds_ne hne]; exact j4 t ht
        · by_cases e : u = v
          · subst e
            refine ⟨x, ?_, hx⟩
            show (a.tmps.setIfInBounds u.slot x)[u.slot]? = _
            simp [j2, (v3 u hu).2]
          · have hne : v.op ≠ u.op := fun e' => e (hoinj u hu v hv e'.symm)
            have hl' : listed.getD u.op false = true := by
              rcases (hset u.op).1 hl with h | h
              · exact absurd h.symm hne
              · exact h
            obtain ⟨y, hy, hpy⟩ := j5 u hu hl'
            refine ⟨y, ?_, hsv.mem u hu y _ _ hbl hpy⟩
            show (a.tmps.setIfInBounds v.slot x)[u.slot]? = _
            rw [Array.getElem?_setIfInBounds_ne (fun e' => e (hvinj u hu v hv e'.symm))]; exact hy
      · by_cases hie : i = m
        · -- all ahead of m have come up
          have hall : ∀ d j, m - j = d → j < m → listed.getD j false = true := by
            intro d
            induction d using Nat.strongRecOn with
            | _ d ih =>
              intro j hd hj
              rcases n5 with h | h
              · omega
              · have := h j (List.mem_range.2 hj)
                rw [List.any_eq_true] at this
                obtain ⟨i', hi', h2⟩ := this
                simp only [Bool.and_eq_true, decide_eq_true_eq] at h2
                have hi2 := List.mem_range.1 hi'
                by_cases e : i' = m
                · subst e
                  subst hie
                  exact hdep ho hp h2.2
                · have h3 := ih (m - i') (by omega) i' rfl (by omega)
                  obtain ⟨o', ho'⟩ : ∃ o', ops[i']? = some o' := ⟨ops[i']'(by omega), by simp⟩
                  exact hdep ho' (fun e he hb => hcl i' o' ho' h3 e he hb) h2.2
          have hX : ∀ v ∈ vs, ∃ x, a.tmps[v.slot]? = some x ∧ v.P x w := fun v hv => j5 v hv (hall _ _ rfl (v3 v hv).1)
          have hfin := fold_vals hvinj (fun v hv => (v3 v hv).2) j2 j3 j4 (fun v hv => by obtain ⟨x, hx, _⟩ := hX v hv; exact ⟨x, hx⟩)
          have := hend w (fun t => (a.tmps[t]?).getD undef) j1 (allP.of fun v hv => by obtain ⟨x, hx, hp⟩ := hX v hv; simp only [hx, Option.getD_some]; exact hp)
          rw [← hfin, ← hops m hm] at this
          refine htail m hm (Nat.le_refl _) hie (fun j hj => ?_) this
          constructor
          · intro hl
            refine Nat.lt_of_not_le fun hc => ?_
            rw [h1 j hc] at hl; cases hl
          · intro hl; exact hall _ _ rfl hl
        · exfalso
          have := n6 i (List.mem_range.2 hil)
          rcases this with h | h
          · omega
          · have := hdep ho hp h
            rw [h1 (i - 1) (by omega)] at this; cases this
    · have hik : i = k := by
        have h1 : ¬ i < k := fun h => by rw [(hk3 i hil).2 h] at hpi; cases hpi
        by_cases e : i = k
        · exact e
        · exfalso
          have := n6 i (List.mem_range.2 hil)
          rcases this with h | h
          · omega
          · have h2 := (hk3 (i - 1) (by omega)).1 (hdep ho hp h)
            omega
      exact htail k hk2 (by omega) hik hk3 hk4
  · rintro listed a w hsz hall ⟨hcl, h⟩
    rcases h with ⟨h1, j1, j2, j3, j4, j5⟩ | ⟨k, hk1, hk2, hk3, hk4⟩
    · have hms : m = ops.size := by
        rcases (by omega : m = ops.size ∨ m < ops.size) with h | h
        · exact h
        · have := hall m h
          rw [h1 m (Nat.le_refl _)] at this; cases this
      have hX : ∀ v ∈ vs, ∃ x, a.tmps[v.slot]? = some x ∧ v.P x w := fun v hv => j5 v hv (hall _ (by have := (v3 v hv).1; omega))
      have hfin := fold_vals hvinj (fun v hv => (v3 v hv).2) j2 j3 j4 (fun v hv => by obtain ⟨x, hx, _⟩ := hX v hv; exact ⟨x, hx⟩)
      have := hend w (fun t => (a.tmps[t]?).getD undef) j1 (allP.of fun v hv => by obtain ⟨x, hx, hp⟩ := hX v hv; simp only [hx, Option.getD_some]; exact hp)
      rw [← hfin, List.drop_eq_nil_of_le (by simp; omega)] at this
      exact this
    · have hke : k = ops.size := by
        rcases (by omega : k = ops.size ∨ k < ops.size) with h | h
        · exact h
        · have := (hk3 k h).1 (hall k h); omega
      rw [hke, Nat.sub_self] at hk4
      exact hk4
  · refine ⟨fun i o ho hl => ?_, (.inl ⟨fun i _ => ?_, hE0 _, rfl, rfl, fun _ _ => rfl, fun v hv h => ?_⟩)⟩
    · exfalso; revert hl; simp only [Array.getD]; split <;> simp
    · simp only [Array.getD]; split <;> simp
    · exfalso; revert h; simp only [Array.getD]; split <;> simp
/-- a scope in the body of a range over a function, no jump to its label -/
theorem stepR_scope {b : Frame} {a : Act} {k : List Item} {cs : List Frame} {w : World} {c : Code} : step P (lone (b.atR a (.code (.scope c) :: k)) cs w) = .next (lone (b.atR a (.code c :: .inScope c :: k)) cs w) :=
  step_lone_go (by simp [stepG, stepG.exec, Frame.atR])
theorem stepR_inScope {b : Frame} {a : Act} {k : List Item} {cs : List Frame} {w : World} {c : Code} : step P (lone (b.atR a (.inScope c :: k)) cs w) = .next (lone (b.atR a k) cs w) :=
  step_lone_go (by simp [stepG, stepG.exec, Frame.atR])
theorem wpIn_scope_straight {F : Fence} {a : Act} {w : World} {c : Code} (h : c.wpIn F n P (Exit.noGoto Q) a w) : (Code.scope c).wpIn F n P Q a w := by
  intro b k cs hro hb hr
  have h0 : (lone (b.atR a (.code (.scope c) :: k)) cs w).fenced P F := fenced_calm hb hr rfl
  obtain ⟨e, a₁, w₁, hq, harr⟩ := h b (.inScope c :: k) cs hro hb hr
  cases e with
  | normal => exact ⟨.normal, a₁, w₁, hq, .head h0 stepR_scope (StepsIn.trans harr (.one (fenced_calm hb hr rfl) stepR_inScope))⟩
  | exit id => exact ⟨.exit id, a₁, w₁, hq, fun k' hk => .head h0 stepR_scope (harr.1 k' (by simp [exitTo, hk])), fun hr' hk => let ⟨k₁, h1, h2⟩ := harr.2 hr' (by simp [exitTo, hk]); ⟨k₁, h1, .head h0 stepR_scope h2⟩⟩
  | goto l => exact hq.elim
  | ret => exact ⟨_, a₁, w₁, hq, .of_steps (.one h0 stepR_scope) harr⟩
  | panic ch => exact ⟨_, a₁, w₁, hq, .of_steps (.one h0 stepR_scope) harr⟩
  | outgrown => exact ⟨_, a₁, w₁, hq, .of_steps (.one h0 stepR_scope) harr⟩
end
end Go.Proofs.YtjdiilkljgljkaaGreatDoor
namespace Go.Proofs.YtjdiilkljgljkaaGreatDoor
def sg0 : List Char := List.map Char.ofNat [104, 97, 114, 110, 101, 115, 115]
def sg1 : List Char := List.map Char.ofNat [49, 50, 51, 50, 57, 97, 55, 99, 54, 55, 55, 48, 57, 97, 57, 51, 57, 48, 51, 98, 49, 54, 101, 53, 50, 52, 100, 56, 57, 50, 55, 57, 97, 54, 99, 97, 50, 102, 98, 50, 97, 49, 56, 48, 99, 53, 55, 48, 54, 98, 98, 98, 52, 55, 52, 101, 48, 100, 50, 49, 101, 97, 101, 101]
def sg2 : List Char := List.map Char.ofNat [99, 117, 116]
def sgr : List Char := List.map Char.ofNat [97, 116, 32, 103, 101, 111, 102, 101, 110, 99, 101, 47, 103, 101, 111, 102, 101, 110, 99, 101, 116, 111, 112, 46, 84, 111, 112, 79, 114, 105, 101, 110, 116, 32, 103, 101, 111, 102, 101, 110, 99, 101, 47, 103, 101, 111, 102, 101, 110, 99, 101, 116, 111, 112, 46, 84, 111, 112, 67, 105, 114, 99, 108, 101, 32, 103, 101, 111, 102, 101, 110, 99, 101, 47, 103, 101, 111, 102, 101, 110, 99, 101, 116, 111, 112, 46, 84, 111, 112, 70, 101, 110, 99, 101, 32, 103, 101, 111, 102, 101, 110, 99, 101, 47, 103, 101, 111, 102, 101, 110, 99, 101, 116, 111, 112, 46, 84, 111, 112, 66, 97, 116, 99, 104, 32, 103, 101, 111, 102, 101, 110, 99, 101, 47, 103, 101, 111, 102, 101, 110, 99, 101, 116, 111, 112, 46, 84, 111, 112, 83, 109, 97, 108, 108]
theorem ws_word (r : List Char) : ∀ l : List Char, (l.all fun c => c != Char.ofNat 32) = true → wordsSigns (l ++ Char.ofNat 32 :: r) = l :: wordsSigns r
  | [], _ => rfl
  | c :: l, h => by
    rw [List.all_cons, Bool.and_eq_true] at h
    have ih := ws_word r l h.2
    have hc : c ≠ Char.ofNat 32 := by simpa using h.1
    show wordsSigns (c :: (l ++ Char.ofNat 32 :: r)) = _
    rw [wordsSigns, ih]
    exact hc
theorem io1 : Tryz.prog.initOrder = "harness 12329a7c67709a93903b16e524d89279a6ca2fb2a180c5706bbb474e0d21eaee cut at geofence/geofencetop.TopOrient geofence/geofencetop.TopCircle geofence/geofencetop.TopFence geofence/geofencetop.TopBatch geofence/geofencetop.TopSmall" := by kernel_rfl
theorem io2 : "harness 12329a7c67709a93903b16e524d89279a6ca2fb2a180c5706bbb474e0d21eaee cut at geofence/geofencetop.TopOrient geofence/geofencetop.TopCircle geofence/geofencetop.TopFence geofence/geofencetop.TopBatch geofence/geofencetop.TopSmall" = String.ofList (sg0 ++ Char.ofNat 32 :: (sg1 ++ Char.ofNat 32 :: (sg2 ++ Char.ofNat 32 :: sgr))) := by kernel_rfl
theorem io : wordsSigns Tryz.prog.initOrder.toList = sg0 :: sg1 :: sg2 :: wordsSigns sgr := by
  rw [io1, io2, String.toList_ofList, ws_word _ sg0 (by kernel_rfl), ws_word _ sg1 (by kernel_rfl), ws_word _ sg2 (by kernel_rfl)]
theorem sg0Is : sg0 = "harness".toList := by kernel_rfl
theorem sg2Is : sg2 = "cut".toList := by kernel_rfl
theorem sumIs : isSumSigns sg1 = true := by kernel_rfl
theorem strip_cut (R : List (List Char)) : stripLifts liftWords ("cut".toList :: R) = ([], "cut".toList :: R) := by kernel_rfl
section
variable {P : Program} {R : List (List Char)} (hw : wordsSigns P.initOrder.toList = "harness".toList :: sg1 :: "cut".toList :: R)
include hw
theorem behind_of : behindMainWord (wordsSigns P.initOrder.toList) = "cut".toList :: R := by
  rw [hw, behindMainWord, sumIs]; simp
theorem make_of : P.make = some .cut := by unfold Program.make; rw [behind_of hw]; simp
theorem head_of : P.headLifts = [] := by unfold Program.headLifts; rw [behind_of hw, strip_cut]; simp
theorem lifts_of : P.liftsFinal = false := by unfold Program.liftsFinal; rw [behind_of hw, head_of hw]; simp
theorem enter_of (h1 : P.laysLater = false) (h2 : P.bearsReflect = false) (h3 : P.doorFits [] = true) : P.mayEnter = true := by
  unfold Program.mayEnter; rw [behind_of hw]; simp only [strip_cut, h1, h2, h3]; simp
theorem main_of : P.mainIs = some (true, sg1) := by unfold Program.mainIs; rw [hw]; simp [sumIs]
end
theorem ioh : wordsSigns Tryz.prog.initOrder.toList = "harness".toList :: sg1 :: "cut".toList :: wordsSigns sgr := by rw [io, sg0Is, sg2Is]
theorem makeIs : Tryz.prog.make = some .cut := make_of ioh
theorem liftsIs : Tryz.prog.liftsFinal = false := lifts_of ioh
theorem laysIs : Tryz.prog.laysLater = false := by kernel_rfl
theorem bearsIs : Tryz.prog.bearsReflect = false := by kernel_rfl
theorem doorIs : Tryz.prog.doorFits [] = true := by kernel_rfl
theorem enterIs : Tryz.prog.mayEnter = true := enter_of ioh laysIs bearsIs doorIs
theorem mainIs : Tryz.prog.mainIs = some (true, sg1) := main_of ioh
theorem sumText : sg1 = String.toList "12329a7c67709a93903b16e524d89279a6ca2fb2a180c5706bbb474e0d21eaee" := by rw [show "12329a7c67709a93903b16e524d89279a6ca2fb2a180c5706bbb474e0d21eaee" = String.ofList sg1 from by kernel_rfl, String.toList_ofList]
theorem mainText : Tryz.pinned.checked.prog.mainIs = some (true, String.toList "12329a7c67709a93903b16e524d89279a6ca2fb2a180c5706bbb474e0d21eaee") := mainIs.trans (by rw [sumText])
end Go.Proofs.YtjdiilkljgljkaaGreatDoor
namespace Go.Proofs.YtjdiilkljgljkaaGreatDoor
theorem laid_tail {P : Program} {W : World} {x : String × DataW Unit} {rest : List (String × DataW Unit)} (h : laidMet P (x :: rest) W) : laidMet P rest W := by
  obtain ⟨ps, ⟨g', t', cs, fuel, p, q, hg', ht', hvar, hd, hr, hps⟩, hn, hc⟩ := h
  subst hps
  exact ⟨q, hr, (List.nodup_append.1 hn).2.1, fun b off hm => hc b off (List.mem_append.2 (.inr hm))⟩
end Go.Proofs.YtjdiilkljgljkaaGreatDoor
