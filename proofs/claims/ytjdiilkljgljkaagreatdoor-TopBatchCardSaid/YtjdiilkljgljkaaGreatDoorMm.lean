/- Part m of the lemmas of TopBatch: contracts of functions of the program, and plain laws of numbers, bytes and memory. -/
import Derived.Test.YtjdiilkljgljkaaGreatDoorMf
import Derived.Test.YtjdiilkljgljkaaGreatDoorMe
import Derived.Deep.DeepCutAuto
import Derived.Test.YtjdiilkljgljkaaGreatDoorMd
import Derived.Deep.RegionHeld3
import Derived.Test.YtjdiilkljgljkaaGreatDoorMc
import Derived.Test.YtjdiilkljgljkaaGreatDoorMg
import Derived.Shelf.SlicesQ.Reverse
import Derived.Ground.SlgnProg
import Derived.Test.YtjdiilkljgljkaaGreatDoorProg
import Derived.Test.YtjdiilkljgljkaaGreatDoorMa
set_option maxHeartbeats 4000000
namespace Go.Proofs.YtjdiilkljgljkaaGreatDoor
set_option linter.unusedVariables false
set_option linter.unusedSimpArgs false
open Go.RowKit Wd
set_option maxHeartbeats 1000000 in
theorem Zbq (ax ay : Int) (h1 : IsI ax) (h2 : IsI ay) (w : World) :
  Calls Tryz.prog 33 #[.agg #[.int .i64 ax, .int .i64 ay]] w fun e w' => (∃ A k c, e = .returned (.agg #[.int .i64 (sg (ax * ax + ay * ay)), .slice A k c]) ∧ k ≤ 9 ∧ Nm w' A k c (ax * ax + ay * ay)) ∧ Below w.heap.size w w' := by
 have HB0 := η (Below.refl w.heap.size w)
 go_enter Tryz.func33, Tryz.ntmps33
 go_wp2_with fail
 have B : Below w.heap.size w ((w.alloc (.cells #[.int .i64 ax, .int .i64 ay] 23)).alloc (.cells #[.int .i64 0, .slice none 0 0] 41)) := ((HB0.out.alloc HB0.out.size _).alloc (HB0.out.alloc HB0.out.size _).size _)
 have C : Below w.heap.size w ((w.alloc (.cells #[.int .i64 ax, .int .i64 ay] 23)).alloc (.cells #[.int .i64 0, .slice none 0 0] 41)) := (((Below.refl w.heap.size w).alloc ν _).alloc (by simp; try omega) _)
 have X0 : Bx ((w.alloc (.cells #[.int .i64 ax, .int .i64 ay] 23)).alloc (.cells #[.int .i64 0, .slice none 0 0] 41)) (w.heap.size) #[.int .i64 ax, .int .i64 ay] 23 := by simpa using ((Bx.new w #[.int .i64 ax, .int .i64 ay] 23).alloc _)
 have X1 : Bx ((w.alloc (.cells #[.int .i64 ax, .int .i64 ay] 23)).alloc (.cells #[.int .i64 0, .slice none 0 0] 41)) (w.heap.size + 1) #[.int .i64 0, .slice none 0 0] 41 := by simpa using (Bx.new (w.alloc (.cells #[.int .i64 ax, .int .i64 ay] 23)) #[.int .i64 0, .slice none 0 0] 41)
 have HB1 := η B
 have FP_1 := η X0
 have FR_1 := η X1
 clear B C X0 X1 HB0
 generalize ((w.alloc (.cells #[.int .i64 ax, .int .i64 ay] 23)).alloc (.cells #[.int .i64 0, .slice none 0 0] 41)) = w1 at *
 skip
 refine (ZbS ax h1 _).mono ?_
 rintro e w2 ⟨⟨A1, k1, c1, rfl, b1, N1⟩, B⟩
 have HB2 := η (HB1.out.trans (B.mono HB1.out.size))
 have FP_2 := η (FP_1.out.below B ν)
 have FR_2 := η (FR_1.out.below B ν)
 have FN1_2 := η N1
 clear B N1 HB1 FP_1 FR_1
 have vP0 := FP_2.out.cell 0 (v := .int .i64 ax) rfl
 have vP1 := FP_2.out.cell 1 (v := .int .i64 ay) rfl
 have vlP := FP_2.out.lt
 go_wp2_with fail
 clear vP0 vP1 vlP
 have nb2 := FR_2.out.lt
 have B : Below w.heap.size w (w2.alloc (.cells #[.int .i64 (sg (ax)), .slice A1 k1 c1] 41)) := (HB2.out.alloc HB2.out.size _)
 have C : Below w2.heap.size w2 (w2.alloc (.cells #[.int .i64 (sg (ax)), .slice A1 k1 c1] 41)) := ((Below.refl w2.heap.size w2).alloc ν _)
 have X0 : Bx (w2.alloc (.cells #[.int .i64 (sg (ax)), .slice A1 k1 c1] 41)) (w2.heap.size) #[.int .i64 (sg (ax)), .slice A1 k1 c1] 41 := by simpa using (Bx.new w2 #[.int .i64 (sg (ax)), .slice A1 k1 c1] 41)
 have FP_3 := η (FP_2.out.below C ν)
 have FR_3 := η (FR_2.out.below C ν)
 have FN1_3 := η (FN1_2.out.below C ν)
 have HB3 := η B
 have FX_3 := η X0
 clear B C X0 HB2 FP_2 FR_2 FN1_2
 generalize (w2.alloc (.cells #[.int .i64 (sg (ax)), .slice A1 k1 c1] 41)) = w3 at *
 skip
 refine (ZbS ay h2 _).mono ?_
 rintro e w4 ⟨⟨A2, k2, c2, rfl, b2, N2⟩, B⟩
 have HB4 := η (HB3.out.trans (B.mono HB3.out.size))
 have FP_4 := η (FP_3.out.below B ν)
 have FR_4 := η (FR_3.out.below B ν)
 have FN1_4 := η (FN1_3.out.below B ν)
 have FX_4 := η (FX_3.out.below B ν)
 have FN2_4 := η N2
 clear B N2 HB3 FP_3 FR_3 FN1_3 FX_3
 go_wp2_with fail
 have nb4 := FR_4.out.lt
 have B : Below w.heap.size w (w4.alloc (.cells #[.int .i64 (sg (ay)), .slice A2 k2 c2] 41)) := (HB4.out.alloc HB4.out.size _)
 have C : Below w4.heap.size w4 (w4.alloc (.cells #[.int .i64 (sg (ay)), .slice A2 k2 c2] 41)) := ((Below.refl w4.heap.size w4).alloc ν _)
 have X0 : Bx (w4.alloc (.cells #[.int .i64 (sg (ay)), .slice A2 k2 c2] 41)) (w4.heap.size) #[.int .i64 (sg (ay)), .slice A2 k2 c2] 41 := by simpa using (Bx.new w4 #[.int .i64 (sg (ay)), .slice A2 k2 c2] 41)
 have FP_5 := η (FP_4.out.below C ν)
 have FR_5 := η (FR_4.out.below C ν)
 have FN1_5 := η (FN1_4.out.below C ν)
 have FX_5 := η (FX_4.out.below C ν)
 have FN2_5 := η (FN2_4.out.below C ν)
 have HB5 := η B
 have FY_5 := η X0
 clear B C X0 HB4 FP_4 FR_4 FN1_4 FX_4 FN2_4
 generalize (w4.alloc (.cells #[.int .i64 (sg (ay)), .slice A2 k2 c2] 41)) = w5 at *
 have RB5 := η (Je w5)
 have QS5 := η (show w5.cell? ⟨w2.heap.size, 0, none⟩ = some (.int .i64 (sg ax)) ∧ w5.cell? ⟨w2.heap.size, 1, none⟩ = some (.slice A1 k1 c1) ∧ w5.cell? ⟨w4.heap.size, 0, none⟩ = some (.int .i64 (sg ay)) ∧ w5.cell? ⟨w4.heap.size, 1, none⟩ = some (.slice A2 k2 c2) from ⟨FX_5.out.cell 0 (v := .int .i64 (sg ax)) rfl, FX_5.out.cell 1 (v := .slice A1 k1 c1) rfl, FY_5.out.cell 0 (v := .int .i64 (sg ay)) rfl, FY_5.out.cell 1 (v := .slice A2 k2 c2) rfl⟩)
 have QF5 := η (show ∀ w', Below w5.heap.size w5 w' → w'.cell? ⟨w2.heap.size, 0, none⟩ = some (.int .i64 (sg ax)) ∧ w'.cell? ⟨w2.heap.size, 1, none⟩ = some (.slice A1 k1 c1) ∧ w'.cell? ⟨w4.heap.size, 0, none⟩ = some (.int .i64 (sg ay)) ∧ w'.cell? ⟨w4.heap.size, 1, none⟩ = some (.slice A2 k2 c2) from fun w' hb => ⟨(FX_5.out.below hb ν).cell 0 (v := .int .i64 (sg ax)) rfl, (FX_5.out.below hb ν).cell 1 (v := .slice A1 k1 c1) rfl, (FY_5.out.below hb ν).cell 0 (v := .int .i64 (sg ay)) rfl, (FY_5.out.below hb ν).cell 1 (v := .slice A2 k2 c2) rfl⟩)
 go_region_held3 (fun w' => w'.cell? ⟨w2.heap.size, 0, none⟩ = some (.int .i64 (sg ax)) ∧ w'.cell? ⟨w2.heap.size, 1, none⟩ = some (.slice A1 k1 c1) ∧ w'.cell? ⟨w4.heap.size, 0, none⟩ = some (.int .i64 (sg ay)) ∧ w'.cell? ⟨w4.heap.size, 1, none⟩ = some (.slice A2 k2 c2)) (first | with_reducible exact QF5.out _ RB8.out | with_reducible exact QF5.out _ RB7.out | with_reducible exact QF5.out _ RB6.out | with_reducible exact QS5.out | with_reducible exact QF5.out _ RB5.out | with_reducible exact ⟨Jc (Jc ((QF5.out _ RB8.out).1) (by simp <;> omega)) (by simp <;> omega), Jc (Jc ((QF5.out _ RB8.out).2.1) (by simp <;> omega)) (by simp <;> omega), Jc (Jc ((QF5.out _ RB8.out).2.2.1) (by simp <;> omega)) (by simp <;> omega), Jc (Jc ((QF5.out _ RB8.out).2.2.2) (by simp <;> omega)) (by simp <;> omega)⟩) (first
   | (go_at_call 34; have := RB7; clear this; refine (ZcX P1 P2 p1 g1 p2 g2 _ _ _ RM1_7.out RM2_7.out (by omega) (by omega)).mono ?_; rintro e w8 ⟨⟨P3, p3, g3, rfl, d3, M3⟩, B⟩; have RB8 := η (RB7.out.trans (B.mono RB7.out.size)); have RM1_8 := η (RM1_7.out.below B ν); have RM2_8 := η (RM2_7.out.below B ν); have RM3_8 := η M3; clear B M3; have q0 := (FR_5.out.below RB8.out ν).cell 0 (v := .int .i64 0) rfl; have q1 := (FR_5.out.below RB8.out ν).cell 1 (v := .slice none 0 0) rfl; have z0 := (FR_5.out.below RB8.out ν).free 0; have z1 := (FR_5.out.below RB8.out ν).free 1)
   | (go_at_call 32; have := RB6; clear this; refine (Zar A2 A2 k2 c2 k2 c2 _ _ _ (FN2_5.out.below RB6.out ν) (FN2_5.out.below RB6.out ν) (by omega) (by omega)).mono ?_; rintro e w7 ⟨⟨P2, p2, g2, rfl, d2, M2⟩, B⟩; have RB7 := η (RB6.out.trans (B.mono RB6.out.size)); have RM1_7 := η (RM1_6.out.below B ν); have RM2_7 := η M2; clear B M2)
   | (go_at_call 32; have := RB5; clear this; refine (Zar A1 A1 k1 c1 k1 c1 _ _ _ (FN1_5.out.below RB5.out ν) (FN1_5.out.below RB5.out ν) (by omega) (by omega)).mono ?_; rintro e w6 ⟨⟨P1, p1, g1, rfl, d1, M1⟩, B⟩; have RB6 := η (RB5.out.trans (B.mono RB5.out.size)); have RM1_6 := η M1; clear B M1))
 have FP_8 := η (FP_5.out.below RB8.out ν)
 have FR_8 := η (FR_5.out.below RB8.out ν)
 have FN1_8 := η (FN1_5.out.below RB8.out ν)
 have FX_8 := η (FX_5.out.below RB8.out ν)
 have FN2_8 := η (FN2_5.out.below RB8.out ν)
 have FY_8 := η (FY_5.out.below RB8.out ν)
 have HB8 := η (HB5.out.trans (RB8.out.mono HB5.out.size))
 clear HB5 FP_5 FR_5 FN1_5 FX_5 FN2_5 FY_5
 go_wp2_with fail
 have r0 := FR_8.out
 have r1 := r0.set 0 (.int .i64 (sg (ax * ax + ay * ay)))
 refine bodyPost_ret (v := .agg #[.int .i64 (sg (ax * ax + ay * ay)), .slice P3 p3 g3]) (by simp [results, Tryz.results33, go_sem, q0, q1]) rfl ⟨⟨P3, p3, g3, rfl, by omega, ((RM3_8.out.setB r0 (by decide)).setB r1 (by decide))⟩, ?_⟩
 exact ((HB8.out.setCell (p := ⟨w.heap.size + 1, 0, none⟩) (by simp <;> omega) _).setCell (p := ⟨w.heap.size + 1, 1, none⟩) (by simp <;> omega) _)
def CutN (w : World) (x : Int) (K : Nat) (s9 : Value) (wx : World) : Prop := ∃ (b : Nat) (A : Option Addr) (k c : Nat),
 s9 = .pointer (some ⟨b, 0, none⟩) ∧ w.heap.size ≤ b ∧ Bx wx b #[.int .i64 (sg x), .slice A k c] 41 ∧ k ≤ K ∧ Nm wx A k c x ∧ Below w.heap.size w wx
theorem ZgR (ax ay bx b_ cx cy dx dy : Int) (hp : P4 ax ay bx b_ cx cy dx dy) (w : World) :
  Calls Tryz.prog 13 #[.agg #[.int .i64 ax, .int .i64 ay], .agg #[.int .i64 bx, .int .i64 b_], .agg #[.int .i64 cx, .int .i64 cy], .agg #[.int .i64 dx, .int .i64 dy]] w fun e w' => (∃ A k c, e = .returned (.agg #[.int .i64 (sg (circ ax ay bx b_ cx cy dx dy)), .slice A k c]) ∧ k ≤ 22 ∧ Nm w' A k c (circ ax ay bx b_ cx cy dx dy)) ∧ Below w.heap.size w w' := by
 have HB0 := η (Below.refl w.heap.size w)
 go_enter Tryz.func13, Tryz.ntmps13
 go_wp2_with fail
 have B : Below w.heap.size w (((((w.alloc (.cells #[.int .i64 ax, .int .i64 ay] 23)).alloc (.cells #[.int .i64 bx, .int .i64 b_] 23)).alloc (.cells #[.int .i64 cx, .int .i64 cy] 23)).alloc (.cells #[.int .i64 dx, .int .i64 dy] 23)).alloc (.cells #[.int .i64 0, .slice none 0 0] 41)) := (((((HB0.out.alloc HB0.out.size _).alloc (HB0.out.alloc HB0.out.size _).size _).alloc ((HB0.out.alloc HB0.out.size _).alloc (HB0.out.alloc HB0.out.size _).size _).size _).alloc (((HB0.out.alloc HB0.out.size _).alloc (HB0.out.alloc HB0.out.size _).size _).alloc ((HB0.out.alloc HB0.out.size _).alloc (HB0.out.alloc HB0.out.size _).size _).size _).size _).alloc ((((HB0.out.alloc HB0.out.size _).alloc (HB0.out.alloc HB0.out.size _).size _).alloc ((HB0.out.alloc HB0.out.size _).alloc (HB0.out.alloc HB0.out.size _).size _).size _).alloc (((HB0.out.alloc HB0.out.size _).alloc (HB0.out.alloc HB0.out.size _).size _).alloc ((HB0.out.alloc HB0.out.size _).alloc (HB0.out.alloc HB0.out.size _).size _).size _).size _).size _)
 have C : Below w.heap.size w (((((w.alloc (.cells #[.int .i64 ax, .int .i64 ay] 23)).alloc (.cells #[.int .i64 bx, .int .i64 b_] 23)).alloc (.cells #[.int .i64 cx, .int .i64 cy] 23)).alloc (.cells #[.int .i64 dx, .int .i64 dy] 23)).alloc (.cells #[.int .i64 0, .slice none 0 0] 41)) := ((((((Below.refl w.heap.size w).alloc ν _).alloc (by simp; try omega) _).alloc (by simp; try omega) _).alloc (by simp; try omega) _).alloc (by simp; try omega) _)
 have X0 : Bx (((((w.alloc (.cells #[.int .i64 ax, .int .i64 ay] 23)).alloc (.cells #[.int .i64 bx, .int .i64 b_] 23)).alloc (.cells #[.int .i64 cx, .int .i64 cy] 23)).alloc (.cells #[.int .i64 dx, .int .i64 dy] 23)).alloc (.cells #[.int .i64 0, .slice none 0 0] 41)) (w.heap.size) #[.int .i64 ax, .int .i64 ay] 23 := by simpa using (((((Bx.new w #[.int .i64 ax, .int .i64 ay] 23).alloc _).alloc _).alloc _).alloc _)
 have X1 : Bx (((((w.alloc (.cells #[.int .i64 ax, .int .i64 ay] 23)).alloc (.cells #[.int .i64 bx, .int .i64 b_] 23)).alloc (.cells #[.int .i64 cx, .int .i64 cy] 23)).alloc (.cells #[.int .i64 dx, .int .i64 dy] 23)).alloc (.cells #[.int .i64 0, .slice none 0 0] 41)) (w.heap.size + 1) #[.int .i64 bx, .int .i64 b_] 23 := by simpa using ((((Bx.new (w.alloc (.cells #[.int .i64 ax, .int .i64 ay] 23)) #[.int .i64 bx, .int .i64 b_] 23).alloc _).alloc _).alloc _)
 have X2 : Bx (((((w.alloc (.cells #[.int .i64 ax, .int .i64 ay] 23)).alloc (.cells #[.int .i64 bx, .int .i64 b_] 23)).alloc (.cells #[.int .i64 cx, .int .i64 cy] 23)).alloc (.cells #[.int .i64 dx, .int .i64 dy] 23)).alloc (.cells #[.int .i64 0, .slice none 0 0] 41)) (w.heap.size + 1 + 1) #[.int .i64 cx, .int .i64 cy] 23 := by simpa using (((Bx.new ((w.alloc (.cells #[.int .i64 ax, .int .i64 ay] 23)).alloc (.cells #[.int .i64 bx, .int .i64 b_] 23)) #[.int .i64 cx, .int .i64 cy] 23).alloc _).alloc _)
 have X3 : Bx (((((w.alloc (.cells #[.int .i64 ax, .int .i64 ay] 23)).alloc (.cells #[.int .i64 bx, .int .i64 b_] 23)).alloc (.cells #[.int .i64 cx, .int .i64 cy] 23)).alloc (.cells #[.int .i64 dx, .int .i64 dy] 23)).alloc (.cells #[.int .i64 0, .slice none 0 0] 41)) (w.heap.size + 1 + 1 + 1) #[.int .i64 dx, .int .i64 dy] 23 := by simpa using ((Bx.new (((w.alloc (.cells #[.int .i64 ax, .int .i64 ay] 23)).alloc (.cells #[.int .i64 bx, .int .i64 b_] 23)).alloc (.cells #[.int .i64 cx, .int .i64 cy] 23)) #[.int .i64 dx, .int .i64 dy] 23).alloc _)
 have X4 : Bx (((((w.alloc (.cells #[.int .i64 ax, .int .i64 ay] 23)).alloc (.cells #[.int .i64 bx, .int .i64 b_] 23)).alloc (.cells #[.int .i64 cx, .int .i64 cy] 23)).alloc (.cells #[.int .i64 dx, .int .i64 dy] 23)).alloc (.cells #[.int .i64 0, .slice none 0 0] 41)) (w.heap.size + 1 + 1 + 1 + 1) #[.int .i64 0, .slice none 0 0] 41 := by simpa using (Bx.new ((((w.alloc (.cells #[.int .i64 ax, .int .i64 ay] 23)).alloc (.cells #[.int .i64 bx, .int .i64 b_] 23)).alloc (.cells #[.int .i64 cx, .int .i64 cy] 23)).alloc (.cells #[.int .i64 dx, .int .i64 dy] 23)) #[.int .i64 0, .slice none 0 0] 41)
 have HB1 := η B
 have FP_1 := η X0
 have FQ_1 := η X1
 have FT_1 := η X2
 have FV_1 := η X3
 have FR_1 := η X4
 clear B C X0 X1 X2 X3 X4 HB0
 generalize (((((w.alloc (.cells #[.int .i64 ax, .int .i64 ay] 23)).alloc (.cells #[.int .i64 bx, .int .i64 b_] 23)).alloc (.cells #[.int .i64 cx, .int .i64 cy] 23)).alloc (.cells #[.int .i64 dx, .int .i64 dy] 23)).alloc (.cells #[.int .i64 0, .slice none 0 0] 41)) = w1 at *
 have rl0 := FR_1.out.lt
 go_upto_region 1 with (fail)
 have M0 := trivial
 have QF := η (show ∀ w', Below w1.heap.size w1 w' → w'.cell? ⟨w.heap.size, 0, none⟩ = some (.int .i64 ax) ∧ w'.cell? ⟨w.heap.size, 1, none⟩ = some (.int .i64 ay) ∧ w'.cell? ⟨w.heap.size + 1, 0, none⟩ = some (.int .i64 bx) ∧ w'.cell? ⟨w.heap.size + 1, 1, none⟩ = some (.int .i64 b_) ∧ w'.cell? ⟨w.heap.size + 1 + 1, 0, none⟩ = some (.int .i64 cx) ∧ w'.cell? ⟨w.heap.size + 1 + 1, 1, none⟩ = some (.int .i64 cy) ∧ w'.cell? ⟨w.heap.size + 1 + 1 + 1, 0, none⟩ = some (.int .i64 dx) ∧ w'.cell? ⟨w.heap.size + 1 + 1 + 1, 1, none⟩ = some (.int .i64 dy) from fun w' hb => ⟨(FP_1.out.below hb ν).cell 0 (v := .int .i64 ax) rfl, (FP_1.out.below hb ν).cell 1 (v := .int .i64 ay) rfl, (FQ_1.out.below hb ν).cell 0 (v := .int .i64 bx) rfl, (FQ_1.out.below hb ν).cell 1 (v := .int .i64 b_) rfl, (FT_1.out.below hb ν).cell 0 (v := .int .i64 cx) rfl, (FT_1.out.below hb ν).cell 1 (v := .int .i64 cy) rfl, (FV_1.out.below hb ν).cell 0 (v := .int .i64 dx) rfl, (FV_1.out.below hb ν).cell 1 (v := .int .i64 dy) rfl⟩)
 go_cut [9] (fun s9 wx => CutN w1 ((ax * ax + ay * ay) * det bx b_ cx cy dx dy) 20 s9 wx)
 case first =>
  go_region_held3 (fun w' => w'.cell? ⟨w.heap.size, 0, none⟩ = some (.int .i64 ax) ∧ w'.cell? ⟨w.heap.size, 1, none⟩ = some (.int .i64 ay) ∧ w'.cell? ⟨w.heap.size + 1, 0, none⟩ = some (.int .i64 bx) ∧ w'.cell? ⟨w.heap.size + 1, 1, none⟩ = some (.int .i64 b_) ∧ w'.cell? ⟨w.heap.size + 1 + 1, 0, none⟩ = some (.int .i64 cx) ∧ w'.cell? ⟨w.heap.size + 1 + 1, 1, none⟩ = some (.int .i64 cy) ∧ w'.cell? ⟨w.heap.size + 1 + 1 + 1, 0, none⟩ = some (.int .i64 dx) ∧ w'.cell? ⟨w.heap.size + 1 + 1 + 1, 1, none⟩ = some (.int .i64 dy)) (first | (with_reducible refine QF.out _ ?_; (repeat (first | (with_reducible refine J9 ?_ ?_; (focus (first | with_reducible assumption | with_reducible exact Nat.le_refl _ | (simp; done) | omega | (simp <;> omega)))) | with_reducible refine J6 ?_ C4.out | with_reducible refine J6 ?_ C3.out | with_reducible refine J6 ?_ C2.out | with_reducible refine J8 ?_ | with_reducible exact J0 | with_reducible refine Ja ?_)); done) | (with_reducible refine QF.out _ ?_; (repeat (first | (with_reducible refine J9 ?_ ?_; (focus (first | with_reducible assumption | with_reducible exact Nat.le_refl _ | (simp; done) | omega | (simp <;> omega)))) | with_reducible refine J6 ?_ C3.out | with_reducible refine J6 ?_ C2.out | with_reducible refine J8 ?_ | with_reducible exact J0 | with_reducible refine Ja ?_)); done) | (with_reducible refine QF.out _ ?_; (repeat (first | (with_reducible refine J9 ?_ ?_; (focus (first | with_reducible assumption | with_reducible exact Nat.le_refl _ | (simp; done) | omega | (simp <;> omega)))) | with_reducible refine J6 ?_ C2.out | with_reducible refine J8 ?_ | with_reducible exact J0 | with_reducible refine Ja ?_)); done) | (with_reducible refine QF.out _ ?_; (repeat (first | (with_reducible refine J9 ?_ ?_; (focus (first | with_reducible assumption | with_reducible exact Nat.le_refl _ | (simp; done) | omega | (simp <;> omega)))) | with_reducible refine J8 ?_ | with_reducible exact J0 | with_reducible refine Ja ?_)); done)) (first
     | (go_at_call 32; clear M2; have M3 := trivial; refine (Zar P1 P2 p1 g1 p2 g2 _ _ _ (JA GL.out (by (repeat (first | with_reducible exact J0 | with_reducible refine J8 ?_ | with_reducible refine Ja ?_)))) (JA GD.out (by (repeat (first | with_reducible exact J0 | with_reducible refine J8 ?_ | with_reducible refine Ja ?_)))) (by omega) (by omega)).mono ?_; rintro e w4 ⟨⟨P3, p3, g3, rfl, d3, M3⟩, B⟩; have C4 := η B; clear B; have hs4 : w1.heap.size ≤ w4.heap.size := Below.size (B := w1.heap.size) (by (repeat (first | (with_reducible refine J9 ?_ ?_; (focus (first | with_reducible assumption | with_reducible exact Nat.le_refl _ | (simp; done) | omega | (simp <;> omega)))) | with_reducible refine J6 ?_ C4.out | with_reducible refine J6 ?_ C3.out | with_reducible refine J6 ?_ C2.out | with_reducible refine J8 ?_ | with_reducible exact J0 | with_reducible refine Ja ?_))); have GL_ := η (JA (w' := w4) GL.out (by (repeat (first | with_reducible exact J0 | with_reducible refine J6 ?_ C4.out | with_reducible refine J8 ?_ | with_reducible refine Ja ?_)))); clear GL; have GL := η GL_.out; clear GL_; have GD_ := η (JA (w' := w4) GD.out (by (repeat (first | with_reducible exact J0 | with_reducible refine J6 ?_ C4.out | with_reducible refine J8 ?_ | with_reducible refine Ja ?_)))); clear GD; have GD := η GD_.out; clear GD_; have GM := η M3; clear M3; (try (refine Jh (T := Bx w4 (w1.heap.size) #[.int .i64 0, .slice none 0 0] 41) ?_ (fun y4_0_0 => ?_); (focus ((repeat (first | (with_reducible refine Jb ?_; (focus (first | with_reducible rfl | (simp; done)))) | with_reducible refine Jg ?_ C4.out | with_reducible refine Jg ?_ C3.out | with_reducible refine Jg ?_ C2.out | with_reducible refine Jd (z0 := .slice none 0 0) (z1 := .slice none 0 0) ?_ | with_reducible refine Jd (z0 := .int .i64 0) (z1 := .slice none 0 0) ?_ | with_reducible refine Ji (z0 := .int .i64 0) (z1 := .slice none 0 0) (z2 := .int .i64 0) (z3 := .slice none 0 0) ?_ | (with_reducible refine Jl ?_ ?_; (focus (first | with_reducible assumption | with_reducible exact Nat.le_refl _ | (simp; done) | omega | (simp <;> omega)))) | with_reducible refine Jj ?_ | with_reducible refine Jf ?_)); done)); have y4_0_0c0 := y4_0_0.cell 0 (v := .int .i64 0) rfl; have y4_0_0f0 := y4_0_0.free 0; have y4_0_0c1 := y4_0_0.cell 1 (v := .slice none 0 0) rfl; have y4_0_0f1 := y4_0_0.free 1; have y4_0_0l := y4_0_0.lt; have y4_0_0n := Nat.ne_of_lt y4_0_0l; have y4_0_0m := Nat.ne_of_gt y4_0_0l; have y4_0_0h := η y4_0_0; clear y4_0_0)); (try (refine Jh (T := Bx w4 (w2.heap.size) #[.int .i64 0, .slice none 0 0] 41) ?_ (fun y4_1_0 => ?_); (focus ((repeat (first | (with_reducible refine Jb ?_; (focus (first | with_reducible rfl | (simp; done)))) | with_reducible refine Jg ?_ C4.out | with_reducible refine Jg ?_ C3.out | with_reducible refine Jg ?_ C2.out | with_reducible refine Jd (z0 := .slice none 0 0) (z1 := .slice none 0 0) ?_ | with_reducible refine Jd (z0 := .int .i64 0) (z1 := .slice none 0 0) ?_ | with_reducible refine Ji (z0 := .int .i64 0) (z1 := .slice none 0 0) (z2 := .int .i64 0) (z3 := .slice none 0 0) ?_ | (with_reducible refine Jl ?_ ?_; (focus (first | with_reducible assumption | with_reducible exact Nat.le_refl _ | (simp; done) | omega | (simp <;> omega)))) | with_reducible refine Jj ?_ | with_reducible refine Jf ?_)); done)); have y4_1_0c0 := y4_1_0.cell 0 (v := .int .i64 0) rfl; have y4_1_0f0 := y4_1_0.free 0; have y4_1_0c1 := y4_1_0.cell 1 (v := .slice none 0 0) rfl; have y4_1_0f1 := y4_1_0.free 1; have y4_1_0l := y4_1_0.lt; have y4_1_0n := Nat.ne_of_lt y4_1_0l; have y4_1_0m := Nat.ne_of_gt y4_1_0l; have y4_1_0h := η y4_1_0; clear y4_1_0)); (try (refine Jh (T := Bx w4 (w3.heap.size) #[.int .i64 0, .slice none 0 0] 41) ?_ (fun y4_2_0 => ?_); (focus ((repeat (first | (with_reducible refine Jb ?_; (focus (first | with_reducible rfl | (simp; done)))) | with_reducible refine Jg ?_ C4.out | with_reducible refine Jg ?_ C3.out | with_reducible refine Jg ?_ C2.out | with_reducible refine Jd (z0 := .slice none 0 0) (z1 := .slice none 0 0) ?_ | with_reducible refine Jd (z0 := .int .i64 0) (z1 := .slice none 0 0) ?_ | with_reducible refine Ji (z0 := .int .i64 0) (z1 := .slice none 0 0) (z2 := .int .i64 0) (z3 := .slice none 0 0) ?_ | (with_reducible refine Jl ?_ ?_; (focus (first | with_reducible assumption | with_reducible exact Nat.le_refl _ | (simp; done) | omega | (simp <;> omega)))) | with_reducible refine Jj ?_ | with_reducible refine Jf ?_)); done)); have y4_2_0c0 := y4_2_0.cell 0 (v := .int .i64 0) rfl; have y4_2_0f0 := y4_2_0.free 0; have y4_2_0c1 := y4_2_0.cell 1 (v := .slice none 0 0) rfl; have y4_2_0f1 := y4_2_0.free 1; have y4_2_0l := y4_2_0.lt; have y4_2_0n := Nat.ne_of_lt y4_2_0l; have y4_2_0m := Nat.ne_of_gt y4_2_0l; have y4_2_0h := η y4_2_0; clear y4_2_0)))
     | (go_at_call 31; clear M1; have M2 := trivial; refine (ZaC bx b_ cx cy dx dy (show P3 bx b_ cx cy dx dy from ⟨hp.c, hp.d, hp.e, hp.f, hp.g, hp.h⟩) _).mono ?_; rintro e w3 ⟨⟨P2, p2, g2, rfl, d2, M2⟩, B⟩; have C3 := η B; clear B; have hs3 : w1.heap.size ≤ w3.heap.size := Below.size (B := w1.heap.size) (by (repeat (first | (with_reducible refine J9 ?_ ?_; (focus (first | with_reducible assumption | with_reducible exact Nat.le_refl _ | (simp; done) | omega | (simp <;> omega)))) | with_reducible refine J6 ?_ C3.out | with_reducible refine J6 ?_ C2.out | with_reducible refine J8 ?_ | with_reducible exact J0 | with_reducible refine Ja ?_))); have GL_ := η (JA (w' := w3) GL.out (by (repeat (first | with_reducible exact J0 | with_reducible refine J6 ?_ C3.out | with_reducible refine J8 ?_ | with_reducible refine Ja ?_)))); clear GL; have GL := η GL_.out; clear GL_; have GD := η M2; clear M2; (try (refine Jh (T := Bx w3 (w1.heap.size) #[.int .i64 0, .slice none 0 0] 41) ?_ (fun y3_0_0 => ?_); (focus ((repeat (first | (with_reducible refine Jb ?_; (focus (first | with_reducible rfl | (simp; done)))) | with_reducible refine Jg ?_ C3.out | with_reducible refine Jg ?_ C2.out | with_reducible refine Jd (z0 := .slice none 0 0) (z1 := .slice none 0 0) ?_ | with_reducible refine Jd (z0 := .int .i64 0) (z1 := .slice none 0 0) ?_ | with_reducible refine Ji (z0 := .int .i64 0) (z1 := .slice none 0 0) (z2 := .int .i64 0) (z3 := .slice none 0 0) ?_ | (with_reducible refine Jl ?_ ?_; (focus (first | with_reducible assumption | with_reducible exact Nat.le_refl _ | (simp; done) | omega | (simp <;> omega)))) | with_reducible refine Jj ?_ | with_reducible refine Jf ?_)); done)); have y3_0_0c0 := y3_0_0.cell 0 (v := .int .i64 0) rfl; have y3_0_0f0 := y3_0_0.free 0; have y3_0_0c1 := y3_0_0.cell 1 (v := .slice none 0 0) rfl; have y3_0_0f1 := y3_0_0.free 1; have y3_0_0l := y3_0_0.lt; have y3_0_0n := Nat.ne_of_lt y3_0_0l; have y3_0_0m := Nat.ne_of_gt y3_0_0l; have y3_0_0h := η y3_0_0; clear y3_0_0)); (try (refine Jh (T := Bx w3 (w2.heap.size) #[.int .i64 0, .slice none 0 0] 41) ?_ (fun y3_1_0 => ?_); (focus ((repeat (first | (with_reducible refine Jb ?_; (focus (first | with_reducible rfl | (simp; done)))) | with_reducible refine Jg ?_ C3.out | with_reducible refine Jg ?_ C2.out | with_reducible refine Jd (z0 := .slice none 0 0) (z1 := .slice none 0 0) ?_ | with_reducible refine Jd (z0 := .int .i64 0) (z1 := .slice none 0 0) ?_ | with_reducible refine Ji (z0 := .int .i64 0) (z1 := .slice none 0 0) (z2 := .int .i64 0) (z3 := .slice none 0 0) ?_ | (with_reducible refine Jl ?_ ?_; (focus (first | with_reducible assumption | with_reducible exact Nat.le_refl _ | (simp; done) | omega | (simp <;> omega)))) | with_reducible refine Jj ?_ | with_reducible refine Jf ?_)); done)); have y3_1_0c0 := y3_1_0.cell 0 (v := .int .i64 0) rfl; have y3_1_0f0 := y3_1_0.free 0; have y3_1_0c1 := y3_1_0.cell 1 (v := .slice none 0 0) rfl; have y3_1_0f1 := y3_1_0.free 1; have y3_1_0l := y3_1_0.lt; have y3_1_0n := Nat.ne_of_lt y3_1_0l; have y3_1_0m := Nat.ne_of_gt y3_1_0l; have y3_1_0h := η y3_1_0; clear y3_1_0)))
     | (go_at_call 33; clear M0; have M1 := trivial; refine (Zbq ax ay hp.a hp.b _).mono ?_; rintro e w2 ⟨⟨P1, p1, g1, rfl, d1, M1⟩, B⟩; have C2 := η B; clear B; have hs2 : w1.heap.size ≤ w2.heap.size := Below.size (B := w1.heap.size) (by (repeat (first | (with_reducible refine J9 ?_ ?_; (focus (first | with_reducible assumption | with_reducible exact Nat.le_refl _ | (simp; done) | omega | (simp <;> omega)))) | with_reducible refine J6 ?_ C2.out | with_reducible refine J8 ?_ | with_reducible exact J0 | with_reducible refine Ja ?_))); have GL := η M1; clear M1; (try (refine Jh (T := Bx w2 (w1.heap.size) #[.int .i64 0, .slice none 0 0] 41) ?_ (fun y2_0_0 => ?_); (focus ((repeat (first | (with_reducible refine Jb ?_; (focus (first | with_reducible rfl | (simp; done)))) | with_reducible refine Jg ?_ C2.out | with_reducible refine Jd (z0 := .slice none 0 0) (z1 := .slice none 0 0) ?_ | with_reducible refine Jd (z0 := .int .i64 0) (z1 := .slice none 0 0) ?_ | with_reducible refine Ji (z0 := .int .i64 0) (z1 := .slice none 0 0) (z2 := .int .i64 0) (z3 := .slice none 0 0) ?_ | (with_reducible refine Jl ?_ ?_; (focus (first | with_reducible assumption | with_reducible exact Nat.le_refl _ | (simp; done) | omega | (simp <;> omega)))) | with_reducible refine Jj ?_ | with_reducible refine Jf ?_)); done)); have y2_0_0c0 := y2_0_0.cell 0 (v := .int .i64 0) rfl; have y2_0_0f0 := y2_0_0.free 0; have y2_0_0c1 := y2_0_0.cell 1 (v := .slice none 0 0) rfl; have y2_0_0f1 := y2_0_0.free 1; have y2_0_0l := y2_0_0.lt; have y2_0_0n := Nat.ne_of_lt y2_0_0l; have y2_0_0m := Nat.ne_of_gt y2_0_0l; have y2_0_0h := η y2_0_0; clear y2_0_0))))
  all_goals (go_wp2_with fail; go_meet; exact ⟨_, P3, p3, g3, rfl, (by first | with_reducible exact Nat.le_refl _ | with_reducible assumption | omega), by (repeat (first | with_reducible exact y4_0_0h.out | with_reducible exact y4_1_0h.out | with_reducible exact y4_2_0h.out | (with_reducible refine Jd (z0 := .int .i64 0) (z1 := .slice none 0 0) ?_) | (with_reducible refine Jb ?_; (focus (first | with_reducible rfl | (simp; done)))) | with_reducible refine Jj ?_ | (with_reducible refine Jl ?_ ?_; (focus (first | with_reducible assumption | (simp; done) | omega | (simp <;> omega)))) | with_reducible refine Jf ?_)), by omega, by (repeat (first | with_reducible exact GM.out | (with_reducible refine Zcv (t := 41) (z0 := .int .i64 0) (z1 := .slice none 0 0) (by decide) ?_ ?_; (focus ((repeat (first | with_reducible exact y4_0_0h.out | with_reducible exact y4_1_0h.out | with_reducible exact y4_2_0h.out | (with_reducible refine Jd (z0 := .int .i64 0) (z1 := .slice none 0 0) ?_) | (with_reducible refine Jb ?_; (focus (first | with_reducible rfl | (simp; done)))) | with_reducible refine Jj ?_ | (with_reducible refine Jl ?_ ?_; (focus (first | with_reducible assumption | (simp; done) | omega | (simp <;> omega)))) | with_reducible refine Jf ?_)); done))) | with_reducible refine ZeN ?_ | with_reducible refine ZeM ?_)), by (repeat (first | (with_reducible refine J9 ?_ ?_; (focus (first | with_reducible assumption | with_reducible exact Nat.le_refl _ | (simp; done) | omega | (simp <;> omega)))) | with_reducible refine J6 ?_ C4.out | with_reducible refine J6 ?_ C3.out | with_reducible refine J6 ?_ C2.out | with_reducible refine J8 ?_ | with_reducible exact J0 | with_reducible refine Ja ?_))⟩)
 case rest =>
  clear QF M0
  obtain ⟨bp, Zp, zp, yp, rfl, bgep, H, zkp, Np, HCB⟩ := hcut
  have FP_5 := η (FP_1.out.below HCB ν); clear FP_1
  have FQ_5 := η (FQ_1.out.below HCB ν); clear FQ_1
  have FT_5 := η (FT_1.out.below HCB ν); clear FT_1
  have FV_5 := η (FV_1.out.below HCB ν); clear FV_1
  have FR_5 := η (FR_1.out.below HCB ν); clear FR_1
  have HB5 := η (HB1.out.trans (HCB.mono HB1.out.size)); clear HCB HB1
  have FBp := η H; have FNp := η Np; clear H Np
  have rnp : w.heap.size + 1 + 1 + 1 + 1 < bp := Nat.lt_of_lt_of_le rl0 bgep; clear bgep
  have rlp := FR_5.out.lt
  go_upto_region 2 with (fail)
  have M0 := trivial
  have QF := η (show ∀ w', Below wc.heap.size wc w' → w'.cell? ⟨w.heap.size, 0, none⟩ = some (.int .i64 ax) ∧ w'.cell? ⟨w.heap.size, 1, none⟩ = some (.int .i64 ay) ∧ w'.cell? ⟨w.heap.size + 1, 0, none⟩ = some (.int .i64 bx) ∧ w'.cell? ⟨w.heap.size + 1, 1, none⟩ = some (.int .i64 b_) ∧ w'.cell? ⟨w.heap.size + 1 + 1, 0, none⟩ = some (.int .i64 cx) ∧ w'.cell? ⟨w.heap.size + 1 + 1, 1, none⟩ = some (.int .i64 cy) ∧ w'.cell? ⟨w.heap.size + 1 + 1 + 1, 0, none⟩ = some (.int .i64 dx) ∧ w'.cell? ⟨w.heap.size + 1 + 1 + 1, 1, none⟩ = some (.int .i64 dy) from fun w' hb => ⟨(FP_5.out.below hb ν).cell 0 (v := .int .i64 ax) rfl, (FP_5.out.below hb ν).cell 1 (v := .int .i64 ay) rfl, (FQ_5.out.below hb ν).cell 0 (v := .int .i64 bx) rfl, (FQ_5.out.below hb ν).cell 1 (v := .int .i64 b_) rfl, (FT_5.out.below hb ν).cell 0 (v := .int .i64 cx) rfl, (FT_5.out.below hb ν).cell 1 (v := .int .i64 cy) rfl, (FV_5.out.below hb ν).cell 0 (v := .int .i64 dx) rfl, (FV_5.out.below hb ν).cell 1 (v := .int .i64 dy) rfl⟩)
  go_cut [10] (fun s10 wx => CutN wc ((bx * bx + b_ * b_) * det ax ay cx cy dx dy) 20 s10 wx)
  case first =>
   go_region_held3 (fun w' => w'.cell? ⟨w.heap.size, 0, none⟩ = some (.int .i64 ax) ∧ w'.cell? ⟨w.heap.size, 1, none⟩ = some (.int .i64 ay) ∧ w'.cell? ⟨w.heap.size + 1, 0, none⟩ = some (.int .i64 bx) ∧ w'.cell? ⟨w.heap.size + 1, 1, none⟩ = some (.int .i64 b_) ∧ w'.cell? ⟨w.heap.size + 1 + 1, 0, none⟩ = some (.int .i64 cx) ∧ w'.cell? ⟨w.heap.size + 1 + 1, 1, none⟩ = some (.int .i64 cy) ∧ w'.cell? ⟨w.heap.size + 1 + 1 + 1, 0, none⟩ = some (.int .i64 dx) ∧ w'.cell? ⟨w.heap.size + 1 + 1 + 1, 1, none⟩ = some (.int .i64 dy)) (first | (with_reducible refine QF.out _ ?_; (repeat (first | (with_reducible refine J9 ?_ ?_; (focus (first | with_reducible assumption | with_reducible exact Nat.le_refl _ | (simp; done) | omega | (simp <;> omega)))) | with_reducible refine J6 ?_ C8.out | with_reducible refine J6 ?_ C7.out | with_reducible refine J6 ?_ C6.out | with_reducible refine J8 ?_ | with_reducible exact J0 | with_reducible refine Ja ?_)); done) | (with_reducible refine QF.out _ ?_; (repeat (first | (with_reducible refine J9 ?_ ?_; (focus (first | with_reducible assumption | with_reducible exact Nat.le_refl _ | (simp; done) | omega | (simp <;> omega)))) | with_reducible refine J6 ?_ C7.out | with_reducible refine J6 ?_ C6.out | with_reducible refine J8 ?_ | with_reducible exact J0 | with_reducible refine Ja ?_)); done) | (with_reducible refine QF.out _ ?_; (repeat (first | (with_reducible refine J9 ?_ ?_; (focus (first | with_reducible assumption | with_reducible exact Nat.le_refl _ | (simp; done) | omega | (simp <;> omega)))) | with_reducible refine J6 ?_ C6.out | with_reducible refine J8 ?_ | with_reducible exact J0 | with_reducible refine Ja ?_)); done) | (with_reducible refine QF.out _ ?_; (repeat (first | (with_reducible refine J9 ?_ ?_; (focus (first | with_reducible assumption | with_reducible exact Nat.le_refl _ | (simp; done) | omega | (simp <;> omega)))) | with_reducible refine J8 ?_ | with_reducible exact J0 | with_reducible refine Ja ?_)); done)) (first
       | (go_at_call 32; clear M2; have M3 := trivial; refine (Zar P1 P2 p1 g1 p2 g2 _ _ _ (JA GL.out (by (repeat (first | with_reducible exact J0 | with_reducible refine J8 ?_ | with_reducible refine Ja ?_)))) (JA GD.out (by (repeat (first | with_reducible exact J0 | with_reducible refine J8 ?_ | with_reducible refine Ja ?_)))) (by omega) (by omega)).mono ?_; rintro e w8 ⟨⟨P3, p3, g3, rfl, d3, M3⟩, B⟩; have C8 := η B; clear B; have hs8 : wc.heap.size ≤ w8.heap.size := Below.size (B := wc.heap.size) (by (repeat (first | (with_reducible refine J9 ?_ ?_; (focus (first | with_reducible assumption | with_reducible exact Nat.le_refl _ | (simp; done) | omega | (simp <;> omega)))) | with_reducible refine J6 ?_ C8.out | with_reducible refine J6 ?_ C7.out | with_reducible refine J6 ?_ C6.out | with_reducible refine J8 ?_ | with_reducible exact J0 | with_reducible refine Ja ?_))); have GL_ := η (JA (w' := w8) GL.out (by (repeat (first | with_reducible exact J0 | with_reducible refine J6 ?_ C8.out | with_reducible refine J8 ?_ | with_reducible refine Ja ?_)))); clear GL; have GL := η GL_.out; clear GL_; have GD_ := η (JA (w' := w8) GD.out (by (repeat (first | with_reducible exact J0 | with_reducible refine J6 ?_ C8.out | with_reducible refine J8 ?_ | with_reducible refine Ja ?_)))); clear GD; have GD := η GD_.out; clear GD_; have GM := η M3; clear M3; (try (refine Jh (T := Bx w8 (wc.heap.size) #[.int .i64 0, .slice none 0 0] 41) ?_ (fun y8_0_0 => ?_); (focus ((repeat (first | (with_reducible refine Jb ?_; (focus (first | with_reducible rfl | (simp; done)))) | with_reducible refine Jg ?_ C8.out | with_reducible refine Jg ?_ C7.out | with_reducible refine Jg ?_ C6.out | with_reducible refine Jd (z0 := .slice none 0 0) (z1 := .slice none 0 0) ?_ | with_reducible refine Jd (z0 := .int .i64 0) (z1 := .slice none 0 0) ?_ | with_reducible refine Ji (z0 := .int .i64 0) (z1 := .slice none 0 0) (z2 := .int .i64 0) (z3 := .slice none 0 0) ?_ | (with_reducible refine Jl ?_ ?_; (focus (first | with_reducible assumption | with_reducible exact Nat.le_refl _ | (simp; done) | omega | (simp <;> omega)))) | with_reducible refine Jj ?_ | with_reducible refine Jf ?_)); done)); have y8_0_0c0 := y8_0_0.cell 0 (v := .int .i64 0) rfl; have y8_0_0f0 := y8_0_0.free 0; have y8_0_0c1 := y8_0_0.cell 1 (v := .slice none 0 0) rfl; have y8_0_0f1 := y8_0_0.free 1; have y8_0_0l := y8_0_0.lt; have y8_0_0n := Nat.ne_of_lt y8_0_0l; have y8_0_0m := Nat.ne_of_gt y8_0_0l; have y8_0_0h := η y8_0_0; clear y8_0_0)); (try (refine Jh (T := Bx w8 (w6.heap.size) #[.int .i64 0, .slice none 0 0] 41) ?_ (fun y8_1_0 => ?_); (focus ((repeat (first | (with_reducible refine Jb ?_; (focus (first | with_reducible rfl | (simp; done)))) | with_reducible refine Jg ?_ C8.out | with_reducible refine Jg ?_ C7.out | with_reducible refine Jg ?_ C6.out | with_reducible refine Jd (z0 := .slice none 0 0) (z1 := .slice none 0 0) ?_ | with_reducible refine Jd (z0 := .int .i64 0) (z1 := .slice none 0 0) ?_ | with_reducible refine Ji (z0 := .int .i64 0) (z1 := .slice none 0 0) (z2 := .int .i64 0) (z3 := .slice none 0 0) ?_ | (with_reducible refine Jl ?_ ?_; (focus (first | with_reducible assumption | with_reducible exact Nat.le_refl _ | (simp; done) | omega | (simp <;> omega)))) | with_reducible refine Jj ?_ | with_reducible refine Jf ?_)); done)); have y8_1_0c0 := y8_1_0.cell 0 (v := .int .i64 0) rfl; have y8_1_0f0 := y8_1_0.free 0; have y8_1_0c1 := y8_1_0.cell 1 (v := .slice none 0 0) rfl; have y8_1_0f1 := y8_1_0.free 1; have y8_1_0l := y8_1_0.lt; have y8_1_0n := Nat.ne_of_lt y8_1_0l; have y8_1_0m := Nat.ne_of_gt y8_1_0l; have y8_1_0h := η y8_1_0; clear y8_1_0)); (try (refine Jh (T := Bx w8 (w7.heap.size) #[.int .i64 0, .slice none 0 0] 41) ?_ (fun y8_2_0 => ?_); (focus ((repeat (first | (with_reducible refine Jb ?_; (focus (first | with_reducible rfl | (simp; done)))) | with_reducible refine Jg ?_ C8.out | with_reducible refine Jg ?_ C7.out | with_reducible refine Jg ?_ C6.out | with_reducible refine Jd (z0 := .slice none 0 0) (z1 := .slice none 0 0) ?_ | with_reducible refine Jd (z0 := .int .i64 0) (z1 := .slice none 0 0) ?_ | with_reducible refine Ji (z0 := .int .i64 0) (z1 := .slice none 0 0) (z2 := .int .i64 0) (z3 := .slice none 0 0) ?_ | (with_reducible refine Jl ?_ ?_; (focus (first | with_reducible assumption | with_reducible exact Nat.le_refl _ | (simp; done) | omega | (simp <;> omega)))) | with_reducible refine Jj ?_ | with_reducible refine Jf ?_)); done)); have y8_2_0c0 := y8_2_0.cell 0 (v := .int .i64 0) rfl; have y8_2_0f0 := y8_2_0.free 0; have y8_2_0c1 := y8_2_0.cell 1 (v := .slice none 0 0) rfl; have y8_2_0f1 := y8_2_0.free 1; have y8_2_0l := y8_2_0.lt; have y8_2_0n := Nat.ne_of_lt y8_2_0l; have y8_2_0m := Nat.ne_of_gt y8_2_0l; have y8_2_0h := η y8_2_0; clear y8_2_0)))
       | (go_at_call 31; clear M1; have M2 := trivial; refine (ZaC ax ay cx cy dx dy (show P3 ax ay cx cy dx dy from ⟨hp.a, hp.b, hp.e, hp.f, hp.g, hp.h⟩) _).mono ?_; rintro e w7 ⟨⟨P2, p2, g2, rfl, d2, M2⟩, B⟩; have C7 := η B; clear B; have hs7 : wc.heap.size ≤ w7.heap.size := Below.size (B := wc.heap.size) (by (repeat (first | (with_reducible refine J9 ?_ ?_; (focus (first | with_reducible assumption | with_reducible exact Nat.le_refl _ | (simp; done) | omega | (simp <;> omega)))) | with_reducible refine J6 ?_ C7.out | with_reducible refine J6 ?_ C6.out | with_reducible refine J8 ?_ | with_reducible exact J0 | with_reducible refine Ja ?_))); have GL_ := η (JA (w' := w7) GL.out (by (repeat (first | with_reducible exact J0 | with_reducible refine J6 ?_ C7.out | with_reducible refine J8 ?_ | with_reducible refine Ja ?_)))); clear GL; have GL := η GL_.out; clear GL_; have GD := η M2; clear M2; (try (refine Jh (T := Bx w7 (wc.heap.size) #[.int .i64 0, .slice none 0 0] 41) ?_ (fun y7_0_0 => ?_); (focus ((repeat (first | (with_reducible refine Jb ?_; (focus (first | with_reducible rfl | (simp; done)))) | with_reducible refine Jg ?_ C7.out | with_reducible refine Jg ?_ C6.out | with_reducible refine Jd (z0 := .slice none 0 0) (z1 := .slice none 0 0) ?_ | with_reducible refine Jd (z0 := .int .i64 0) (z1 := .slice none 0 0) ?_ | with_reducible refine Ji (z0 := .int .i64 0) (z1 := .slice none 0 0) (z2 := .int .i64 0) (z3 := .slice none 0 0) ?_ | (with_reducible refine Jl ?_ ?_; (focus (first | with_reducible assumption | with_reducible exact Nat.le_refl _ | (simp; done) | omega | (simp <;> omega)))) | with_reducible refine Jj ?_ | with_reducible refine Jf ?_)); done)); have y7_0_0c0 := y7_0_0.cell 0 (v := .int .i64 0) rfl; have y7_0_0f0 := y7_0_0.free 0; have y7_0_0c1 := y7_0_0.cell 1 (v := .slice none 0 0) rfl; have y7_0_0f1 := y7_0_0.free 1; have y7_0_0l := y7_0_0.lt; have y7_0_0n := Nat.ne_of_lt y7_0_0l; have y7_0_0m := Nat.ne_of_gt y7_0_0l; have y7_0_0h := η y7_0_0; clear y7_0_0)); (try (refine Jh (T := Bx w7 (w6.heap.size) #[.int .i64 0, .slice none 0 0] 41) ?_ (fun y7_1_0 => ?_); (focus ((repeat (first | (with_reducible refine Jb ?_; (focus (first | with_reducible rfl | (simp; done)))) | with_reducible refine Jg ?_ C7.out | with_reducible refine Jg ?_ C6.out | with_reducible refine Jd (z0 := .slice none 0 0) (z1 := .slice none 0 0) ?_ | with_reducible refine Jd (z0 := .int .i64 0) (z1 := .slice none 0 0) ?_ | with_reducible refine Ji (z0 := .int .i64 0) (z1 := .slice none 0 0) (z2 := .int .i64 0) (z3 := .slice none 0 0) ?_ | (with_reducible refine Jl ?_ ?_; (focus (first | with_reducible assumption | with_reducible exact Nat.le_refl _ | (simp; done) | omega | (simp <;> omega)))) | with_reducible refine Jj ?_ | with_reducible refine Jf ?_)); done)); have y7_1_0c0 := y7_1_0.cell 0 (v := .int .i64 0) rfl; have y7_1_0f0 := y7_1_0.free 0; have y7_1_0c1 := y7_1_0.cell 1 (v := .slice none 0 0) rfl; have y7_1_0f1 := y7_1_0.free 1; have y7_1_0l := y7_1_0.lt; have y7_1_0n := Nat.ne_of_lt y7_1_0l; have y7_1_0m := Nat.ne_of_gt y7_1_0l; have y7_1_0h := η y7_1_0; clear y7_1_0)))
       | (go_at_call 33; clear M0; have M1 := trivial; refine (Zbq bx b_ hp.c hp.d _).mono ?_; rintro e w6 ⟨⟨P1, p1, g1, rfl, d1, M1⟩, B⟩; have C6 := η B; clear B; have hs6 : wc.heap.size ≤ w6.heap.size := Below.size (B := wc.heap.size) (by (repeat (first | (with_reducible refine J9 ?_ ?_; (focus (first | with_reducible assumption | with_reducible exact Nat.le_refl _ | (simp; done) | omega | (simp <;> omega)))) | with_reducible refine J6 ?_ C6.out | with_reducible refine J8 ?_ | with_reducible exact J0 | with_reducible refine Ja ?_))); have GL := η M1; clear M1; (try (refine Jh (T := Bx w6 (wc.heap.size) #[.int .i64 0, .slice none 0 0] 41) ?_ (fun y6_0_0 => ?_); (focus ((repeat (first | (with_reducible refine Jb ?_; (focus (first | with_reducible rfl | (simp; done)))) | with_reducible refine Jg ?_ C6.out | with_reducible refine Jd (z0 := .slice none 0 0) (z1 := .slice none 0 0) ?_ | with_reducible refine Jd (z0 := .int .i64 0) (z1 := .slice none 0 0) ?_ | with_reducible refine Ji (z0 := .int .i64 0) (z1 := .slice none 0 0) (z2 := .int .i64 0) (z3 := .slice none 0 0) ?_ | (with_reducible refine Jl ?_ ?_; (focus (first | with_reducible assumption | with_reducible exact Nat.le_refl _ | (simp; done) | omega | (simp <;> omega)))) | with_reducible refine Jj ?_ | with_reducible refine Jf ?_)); done)); have y6_0_0c0 := y6_0_0.cell 0 (v := .int .i64 0) rfl; have y6_0_0f0 := y6_0_0.free 0; have y6_0_0c1 := y6_0_0.cell 1 (v := .slice none 0 0) rfl; have y6_0_0f1 := y6_0_0.free 1; have y6_0_0l := y6_0_0.lt; have y6_0_0n := Nat.ne_of_lt y6_0_0l; have y6_0_0m := Nat.ne_of_gt y6_0_0l; have y6_0_0h := η y6_0_0; clear y6_0_0))))
   all_goals (go_wp2_with fail; go_meet; exact ⟨_, P3, p3, g3, rfl, (by first | with_reducible exact Nat.le_refl _ | with_reducible assumption | omega), by (repeat (first | with_reducible exact y8_0_0h.out | with_reducible exact y8_1_0h.out | with_reducible exact y8_2_0h.out | (with_reducible refine Jd (z0 := .int .i64 0) (z1 := .slice none 0 0) ?_) | (with_reducible refine Jb ?_; (focus (first | with_reducible rfl | (simp; done)))) | with_reducible refine Jj ?_ | (with_reducible refine Jl ?_ ?_; (focus (first | with_reducible assumption | (simp; done) | omega | (simp <;> omega)))) | with_reducible refine Jf ?_)), by omega, by (repeat (first | with_reducible exact GM.out | (with_reducible refine Zcv (t := 41) (z0 := .int .i64 0) (z1 := .slice none 0 0) (by decide) ?_ ?_; (focus ((repeat (first | with_reducible exact y8_0_0h.out | with_reducible exact y8_1_0h.out | with_reducible exact y8_2_0h.out | (with_reducible refine Jd (z0 := .int .i64 0) (z1 := .slice none 0 0) ?_) | (with_reducible refine Jb ?_; (focus (first | with_reducible rfl | (simp; done)))) | with_reducible refine Jj ?_ | (with_reducible refine Jl ?_ ?_; (focus (first | with_reducible assumption | (simp; done) | omega | (simp <;> omega)))) | with_reducible refine Jf ?_)); done))) | with_reducible refine ZeN ?_ | with_reducible refine ZeM ?_)), by (repeat (first | (with_reducible refine J9 ?_ ?_; (focus (first | with_reducible assumption | with_reducible exact Nat.le_refl _ | (simp; done) | omega | (simp <;> omega)))) | with_reducible refine J6 ?_ C8.out | with_reducible refine J6 ?_ C7.out | with_reducible refine J6 ?_ C6.out | with_reducible refine J8 ?_ | with_reducible exact J0 | with_reducible refine Ja ?_))⟩)
  case rest =>
   clear QF M0
   obtain ⟨bq, Zq, zq, yq, rfl, bgeq, H, zkq, Nq, HCB⟩ := hcut
   have FP_9 := η (FP_5.out.below HCB ν); clear FP_5
   have FQ_9 := η (FQ_5.out.below HCB ν); clear FQ_5
   have FT_9 := η (FT_5.out.below HCB ν); clear FT_5
   have FV_9 := η (FV_5.out.below HCB ν); clear FV_5
   have FR_9 := η (FR_5.out.below HCB ν); clear FR_5
   have FBp_9 := η (FBp.out.below HCB ν); clear FBp
   have FNp_9 := η (FNp.out.below HCB ν); clear FNp
   have HB9 := η (HB5.out.trans (HCB.mono HB5.out.size)); clear HCB HB5
   have FBq := η H; have FNq := η Nq; clear H Nq
   have rnq : w.heap.size + 1 + 1 + 1 + 1 < bq := Nat.lt_of_lt_of_le rlp bgeq; clear bgeq
   have rlq := FR_9.out.lt
   go_upto_region 3 with (fail)
   have M0 := trivial
   have QF := η (show ∀ w', Below wc.heap.size wc w' → w'.cell? ⟨w.heap.size, 0, none⟩ = some (.int .i64 ax) ∧ w'.cell? ⟨w.heap.size, 1, none⟩ = some (.int .i64 ay) ∧ w'.cell? ⟨w.heap.size + 1, 0, none⟩ = some (.int .i64 bx) ∧ w'.cell? ⟨w.heap.size + 1, 1, none⟩ = some (.int .i64 b_) ∧ w'.cell? ⟨w.heap.size + 1 + 1, 0, none⟩ = some (.int .i64 cx) ∧ w'.cell? ⟨w.heap.size + 1 + 1, 1, none⟩ = some (.int .i64 cy) ∧ w'.cell? ⟨w.heap.size + 1 + 1 + 1, 0, none⟩ = some (.int .i64 dx) ∧ w'.cell? ⟨w.heap.size + 1 + 1 + 1, 1, none⟩ = some (.int .i64 dy) from fun w' hb => ⟨(FP_9.out.below hb ν).cell 0 (v := .int .i64 ax) rfl, (FP_9.out.below hb ν).cell 1 (v := .int .i64 ay) rfl, (FQ_9.out.below hb ν).cell 0 (v := .int .i64 bx) rfl, (FQ_9.out.below hb ν).cell 1 (v := .int .i64 b_) rfl, (FT_9.out.below hb ν).cell 0 (v := .int .i64 cx) rfl, (FT_9.out.below hb ν).cell 1 (v := .int .i64 cy) rfl, (FV_9.out.below hb ν).cell 0 (v := .int .i64 dx) rfl, (FV_9.out.below hb ν).cell 1 (v := .int .i64 dy) rfl⟩)
   go_cut [11] (fun s11 wx => CutN wc ((cx * cx + cy * cy) * det ax ay bx b_ dx dy) 20 s11 wx)
   case first =>
    go_region_held3 (fun w' => w'.cell? ⟨w.heap.size, 0, none⟩ = some (.int .i64 ax) ∧ w'.cell? ⟨w.heap.size, 1, none⟩ = some (.int .i64 ay) ∧ w'.cell? ⟨w.heap.size + 1, 0, none⟩ = some (.int .i64 bx) ∧ w'.cell? ⟨w.heap.size + 1, 1, none⟩ = some (.int .i64 b_) ∧ w'.cell? ⟨w.heap.size + 1 + 1, 0, none⟩ = some (.int .i64 cx) ∧ w'.cell? ⟨w.heap.size + 1 + 1, 1, none⟩ = some (.int .i64 cy) ∧ w'.cell? ⟨w.heap.size + 1 + 1 + 1, 0, none⟩ = some (.int .i64 dx) ∧ w'.cell? ⟨w.heap.size + 1 + 1 + 1, 1, none⟩ = some (.int .i64 dy)) (first | (with_reducible refine QF.out _ ?_; (repeat (first | (with_reducible refine J9 ?_ ?_; (focus (first | with_reducible assumption | with_reducible exact Nat.le_refl _ | (simp; done) | omega | (simp <;> omega)))) | with_reducible refine J6 ?_ C12.out | with_reducible refine J6 ?_ C11.out | with_reducible refine J6 ?_ C10.out | with_reducible refine J8 ?_ | with_reducible exact J0 | with_reducible refine Ja ?_)); done) | (with_reducible refine QF.out _ ?_; (repeat (first | (with_reducible refine J9 ?_ ?_; (focus (first | with_reducible assumption | with_reducible exact Nat.le_refl _ | (simp; done) | omega | (simp <;> omega)))) | with_reducible refine J6 ?_ C11.out | with_reducible refine J6 ?_ C10.out | with_reducible refine J8 ?_ | with_reducible exact J0 | with_reducible refine Ja ?_)); done) | (with_reducible refine QF.out _ ?_; (repeat (first | (with_reducible refine J9 ?_ ?_; (focus (first | with_reducible assumption | with_reducible exact Nat.le_refl _ | (simp; done) | omega | (simp <;> omega)))) | with_reducible refine J6 ?_ C10.out | with_reducible refine J8 ?_ | with_reducible exact J0 | with_reducible refine Ja ?_)); done) | (with_reducible refine QF.out _ ?_; (repeat (first | (with_reducible refine J9 ?_ ?_; (focus (first | with_reducible assumption | with_reducible exact Nat.le_refl _ | (simp; done) | omega | (simp <;> omega)))) | with_reducible refine J8 ?_ | with_reducible exact J0 | with_reducible refine Ja ?_)); done)) (first
         | (go_at_call 32; clear M2; have M3 := trivial; refine (Zar P1 P2 p1 g1 p2 g2 _ _ _ (JA GL.out (by (repeat (first | with_reducible exact J0 | with_reducible refine J8 ?_ | with_reducible refine Ja ?_)))) (JA GD.out (by (repeat (first | with_reducible exact J0 | with_reducible refine J8 ?_ | with_reducible refine Ja ?_)))) (by omega) (by omega)).mono ?_; rintro e w12 ⟨⟨P3, p3, g3, rfl, d3, M3⟩, B⟩; have C12 := η B; clear B; have hs12 : wc.heap.size ≤ w12.heap.size := Below.size (B := wc.heap.size) (by (repeat (first | (with_reducible refine J9 ?_ ?_; (focus (first | with_reducible assumption | with_reducible exact Nat.le_refl _ | (simp; done) | omega | (simp <;> omega)))) | with_reducible refine J6 ?_ C12.out | with_reducible refine J6 ?_ C11.out | with_reducible refine J6 ?_ C10.out | with_reducible refine J8 ?_ | with_reducible exact J0 | with_reducible refine Ja ?_))); have GL_ := η (JA (w' := w12) GL.out (by (repeat (first | with_reducible exact J0 | with_reducible refine J6 ?_ C12.out | with_reducible refine J8 ?_ | with_reducible refine Ja ?_)))); clear GL; have GL := η GL_.out; clear GL_; have GD_ := η (JA (w' := w12) GD.out (by (repeat (first | with_reducible exact J0 | with_reducible refine J6 ?_ C12.out | with_reducible refine J8 ?_ | with_reducible refine Ja ?_)))); clear GD; have GD := η GD_.out; clear GD_; have GM := η M3; clear M3; (try (refine Jh (T := Bx w12 (wc.heap.size) #[.int .i64 0, .slice none 0 0] 41) ?_ (fun y12_0_0 => ?_); (focus ((repeat (first | (with_reducible refine Jb ?_; (focus (first | with_reducible rfl | (simp; done)))) | with_reducible refine Jg ?_ C12.out | with_reducible refine Jg ?_ C11.out | with_reducible refine Jg ?_ C10.out | with_reducible refine Jd (z0 := .slice none 0 0) (z1 := .slice none 0 0) ?_ | with_reducible refine Jd (z0 := .int .i64 0) (z1 := .slice none 0 0) ?_ | with_reducible refine Ji (z0 := .int .i64 0) (z1 := .slice none 0 0) (z2 := .int .i64 0) (z3 := .slice none 0 0) ?_ | (with_reducible refine Jl ?_ ?_; (focus (first | with_reducible assumption | with_reducible exact Nat.le_refl _ | (simp; done) | omega | (simp <;> omega)))) | with_reducible refine Jj ?_ | with_reducible refine Jf ?_)); done)); have y12_0_0c0 := y12_0_0.cell 0 (v := .int .i64 0) rfl; have y12_0_0f0 := y12_0_0.free 0; have y12_0_0c1 := y12_0_0.cell 1 (v := .slice none 0 0) rfl; have y12_0_0f1 := y12_0_0.free 1; have y12_0_0l := y12_0_0.lt; have y12_0_0n := Nat.ne_of_lt y12_0_0l; have y12_0_0m := Nat.ne_of_gt y12_0_0l; have y12_0_0h := η y12_0_0; clear y12_0_0)); (try (refine Jh (T := Bx w12 (w10.heap.size) #[.int .i64 0, .slice none 0 0] 41) ?_ (fun y12_1_0 => ?_); (focus ((repeat (first | (with_reducible refine Jb ?_; (focus (first | with_reducible rfl | (simp; done)))) | with_reducible refine Jg ?_ C12.out | with_reducible refine Jg ?_ C11.out | with_reducible refine Jg ?_ C10.out | with_reducible refine Jd (z0 := .slice none 0 0) (z1 := .slice none 0 0) ?_ | with_reducible refine Jd (z0 := .int .i64 0) (z1 := .slice none 0 0) ?_ | with_reducible refine Ji (z0 := .int .i64 0) (z1 := .slice none 0 0) (z2 := .int .i64 0) (z3 := .slice none 0 0) ?_ | (with_reducible refine Jl ?_ ?_; (focus (first | with_reducible assumption | with_reducible exact Nat.le_refl _ | (simp; done) | omega | (simp <;> omega)))) | with_reducible refine Jj ?_ | with_reducible refine Jf ?_)); done)); have y12_1_0c0 := y12_1_0.cell 0 (v := .int .i64 0) rfl; have y12_1_0f0 := y12_1_0.free 0; have y12_1_0c1 := y12_1_0.cell 1 (v := .slice none 0 0) rfl; have y12_1_0f1 := y12_1_0.free 1; have y12_1_0l := y12_1_0.lt; have y12_1_0n := Nat.ne_of_lt y12_1_0l; have y12_1_0m := Nat.ne_of_gt y12_1_0l; have y12_1_0h := η y12_1_0; clear y12_1_0)); (try (refine Jh (T := Bx w12 (w11.heap.size) #[.int .i64 0, .slice none 0 0] 41) ?_ (fun y12_2_0 => ?_); (focus ((repeat (first | (with_reducible refine Jb ?_; (focus (first | with_reducible rfl | (simp; done)))) | with_reducible refine Jg ?_ C12.out | with_reducible refine Jg ?_ C11.out | with_reducible refine Jg ?_ C10.out | with_reducible refine Jd (z0 := .slice none 0 0) (z1 := .slice none 0 0) ?_ | with_reducible refine Jd (z0 := .int .i64 0) (z1 := .slice none 0 0) ?_ | with_reducible refine Ji (z0 := .int .i64 0) (z1 := .slice none 0 0) (z2 := .int .i64 0) (z3 := .slice none 0 0) ?_ | (with_reducible refine Jl ?_ ?_; (focus (first | with_reducible assumption | with_reducible exact Nat.le_refl _ | (simp; done) | omega | (simp <;> omega)))) | with_reducible refine Jj ?_ | with_reducible refine Jf ?_)); done)); have y12_2_0c0 := y12_2_0.cell 0 (v := .int .i64 0) rfl; have y12_2_0f0 := y12_2_0.free 0; have y12_2_0c1 := y12_2_0.cell 1 (v := .slice none 0 0) rfl; have y12_2_0f1 := y12_2_0.free 1; have y12_2_0l := y12_2_0.lt; have y12_2_0n := Nat.ne_of_lt y12_2_0l; have y12_2_0m := Nat.ne_of_gt y12_2_0l; have y12_2_0h := η y12_2_0; clear y12_2_0)))
         | (go_at_call 31; clear M1; have M2 := trivial; refine (ZaC ax ay bx b_ dx dy (show P3 ax ay bx b_ dx dy from ⟨hp.a, hp.b, hp.c, hp.d, hp.g, hp.h⟩) _).mono ?_; rintro e w11 ⟨⟨P2, p2, g2, rfl, d2, M2⟩, B⟩; have C11 := η B; clear B; have hs11 : wc.heap.size ≤ w11.heap.size := Below.size (B := wc.heap.size) (by (repeat (first | (with_reducible refine J9 ?_ ?_; (focus (first | with_reducible assumption | with_reducible exact Nat.le_refl _ | (simp; done) | omega | (simp <;> omega)))) | with_reducible refine J6 ?_ C11.out | with_reducible refine J6 ?_ C10.out | with_reducible refine J8 ?_ | with_reducible exact J0 | with_reducible refine Ja ?_))); have GL_ := η (JA (w' := w11) GL.out (by (repeat (first | with_reducible exact J0 | with_reducible refine J6 ?_ C11.out | with_reducible refine J8 ?_ | with_reducible refine Ja ?_)))); clear GL; have GL := η GL_.out; clear GL_; have GD := η M2; clear M2; (try (refine Jh (T := Bx w11 (wc.heap.size) #[.int .i64 0, .slice none 0 0] 41) ?_ (fun y11_0_0 => ?_); (focus ((repeat (first | (with_reducible refine Jb ?_; (focus (first | with_reducible rfl | (simp; done)))) | with_reducible refine Jg ?_ C11.out | with_reducible refine Jg ?_ C10.out | with_reducible refine Jd (z0 := .slice none 0 0) (z1 := .slice none 0 0) ?_ | with_reducible refine Jd (z0 := .int .i64 0) (z1 := .slice none 0 0) ?_ | with_reducible refine Ji (z0 := .int .i64 0) (z1 := .slice none 0 0) (z2 := .int .i64 0) (z3 := .slice none 0 0) ?_ | (with_reducible refine Jl ?_ ?_; (focus (first | with_reducible assumption | with_reducible exact Nat.le_refl _ | (simp; done) | omega | (simp <;> omega)))) | with_reducible refine Jj ?_ | with_reducible refine Jf ?_)); done)); have y11_0_0c0 := y11_0_0.cell 0 (v := .int .i64 0) rfl; have y11_0_0f0 := y11_0_0.free 0; have y11_0_0c1 := y11_0_0.cell 1 (v := .slice none 0 0) rfl; have y11_0_0f1 := y11_0_0.free 1; have y11_0_0l := y11_0_0.lt; have y11_0_0n := Nat.ne_of_lt y11_0_0l; have y11_0_0m := Nat.ne_of_gt y11_0_0l; have y11_0_0h := η y11_0_0; clear y11_0_0)); (try (refine Jh (T := Bx w11 (w10.heap.size) #[.int .i64 0, .slice none 0 0] 41) ?_ (fun y11_1_0 => ?_); (focus ((repeat (first | (with_reducible refine Jb ?_; (focus (first | with_reducible rfl | (simp; done)))) | with_reducible refine Jg ?_ C11.out | with_reducible refine Jg ?_ C10.out | with_reducible refine Jd (z0 := .slice none 0 0) (z1 := .slice none 0 0) ?_ | with_reducible refine Jd (z0 := .int .i64 0) (z1 := .slice none 0 0) ?_ | with_reducible refine Ji (z0 := .int .i64 0) (z1 := .slice none 0 0) (z2 := .int .i64 0) (z3 := .slice none 0 0) ?_ | (with_reducible refine Jl ?_ ?_; (focus (first | with_reducible assumption | with_reducible exact Nat.le_refl _ | (simp; done) | omega | (simp <;> omega)))) | with_reducible refine Jj ?_ | with_reducible refine Jf ?_)); done)); have y11_1_0c0 := y11_1_0.cell 0 (v := .int .i64 0) rfl; have y11_1_0f0 := y11_1_0.free 0; have y11_1_0c1 := y11_1_0.cell 1 (v := .slice none 0 0) rfl; have y11_1_0f1 := y11_1_0.free 1; have y11_1_0l := y11_1_0.lt; have y11_1_0n := Nat.ne_of_lt y11_1_0l; have y11_1_0m := Nat.ne_of_gt y11_1_0l; have y11_1_0h := η y11_1_0; clear y11_1_0)))
         | (go_at_call 33; clear M0; have M1 := trivial; refine (Zbq cx cy hp.e hp.f _).mono ?_; rintro e w10 ⟨⟨P1, p1, g1, rfl, d1, M1⟩, B⟩; have C10 := η B; clear B; have hs10 : wc.heap.size ≤ w10.heap.size := Below.size (B := wc.heap.size) (by (repeat (first | (with_reducible refine J9 ?_ ?_; (focus (first | with_reducible assumption | with_reducible exact Nat.le_refl _ | (simp; done) | omega | (simp <;> omega)))) | with_reducible refine J6 ?_ C10.out | with_reducible refine J8 ?_ | with_reducible exact J0 | with_reducible refine Ja ?_))); have GL := η M1; clear M1; (try (refine Jh (T := Bx w10 (wc.heap.size) #[.int .i64 0, .slice none 0 0] 41) ?_ (fun y10_0_0 => ?_); (focus ((repeat (first | (with_reducible refine Jb ?_; (focus (first | with_reducible rfl | (simp; done)))) | with_reducible refine Jg ?_ C10.out | with_reducible refine Jd (z0 := .slice none 0 0) (z1 := .slice none 0 0) ?_ | with_reducible refine Jd (z0 := .int .i64 0) (z1 := .slice none 0 0) ?_ | with_reducible refine Ji (z0 := .int .i64 0) (z1 := .slice none 0 0) (z2 := .int .i64 0) (z3 := .slice none 0 0) ?_ | (with_reducible refine Jl ?_ ?_; (focus (first | with_reducible assumption | with_reducible exact Nat.le_refl _ | (simp; done) | omega | (simp <;> omega)))) | with_reducible refine Jj ?_ | with_reducible refine Jf ?_)); done)); have y10_0_0c0 := y10_0_0.cell 0 (v := .int .i64 0) rfl; have y10_0_0f0 := y10_0_0.free 0; have y10_0_0c1 := y10_0_0.cell 1 (v := .slice none 0 0) rfl; have y10_0_0f1 := y10_0_0.free 1; have y10_0_0l := y10_0_0.lt; have y10_0_0n := Nat.ne_of_lt y10_0_0l; have y10_0_0m := Nat.ne_of_gt y10_0_0l; have y10_0_0h := η y10_0_0; clear y10_0_0))))
    all_goals (go_wp2_with fail; go_meet; exact ⟨_, P3, p3, g3, rfl, (by first | with_reducible exact Nat.le_refl _ | with_reducible assumption | omega), by (repeat (first | with_reducible exact y12_0_0h.out | with_reducible exact y12_1_0h.out | with_reducible exact y12_2_0h.out | (with_reducible refine Jd (z0 := .int .i64 0) (z1 := .slice none 0 0) ?_) | (with_reducible refine Jb ?_; (focus (first | with_reducible rfl | (simp; done)))) | with_reducible refine Jj ?_ | (with_reducible refine Jl ?_ ?_; (focus (first | with_reducible assumption | (simp; done) | omega | (simp <;> omega)))) | with_reducible refine Jf ?_)), by omega, by (repeat (first | with_reducible exact GM.out | (with_reducible refine Zcv (t := 41) (z0 := .int .i64 0) (z1 := .slice none 0 0) (by decide) ?_ ?_; (focus ((repeat (first | with_reducible exact y12_0_0h.out | with_reducible exact y12_1_0h.out | with_reducible exact y12_2_0h.out | (with_reducible refine Jd (z0 := .int .i64 0) (z1 := .slice none 0 0) ?_) | (with_reducible refine Jb ?_; (focus (first | with_reducible rfl | (simp; done)))) | with_reducible refine Jj ?_ | (with_reducible refine Jl ?_ ?_; (focus (first | with_reducible assumption | (simp; done) | omega | (simp <;> omega)))) | with_reducible refine Jf ?_)); done))) | with_reducible refine ZeN ?_ | with_reducible refine ZeM ?_)), by (repeat (first | (with_reducible refine J9 ?_ ?_; (focus (first | with_reducible assumption | with_reducible exact Nat.le_refl _ | (simp; done) | omega | (simp <;> omega)))) | with_reducible refine J6 ?_ C12.out | with_reducible refine J6 ?_ C11.out | with_reducible refine J6 ?_ C10.out | with_reducible refine J8 ?_ | with_reducible exact J0 | with_reducible refine Ja ?_))⟩)
   case rest =>
    clear QF M0
    obtain ⟨bt, Zt, zt, yt, rfl, bget, H, zkt, Nt, HCB⟩ := hcut
    have FP_13 := η (FP_9.out.below HCB ν); clear FP_9
    have FQ_13 := η (FQ_9.out.below HCB ν); clear FQ_9
    have FT_13 := η (FT_9.out.below HCB ν); clear FT_9
    have FV_13 := η (FV_9.out.below HCB ν); clear FV_9
    have FR_13 := η (FR_9.out.below HCB ν); clear FR_9
    have FBp_13 := η (FBp_9.out.below HCB ν); clear FBp_9
    have FNp_13 := η (FNp_9.out.below HCB ν); clear FNp_9
    have FBq_13 := η (FBq.out.below HCB ν); clear FBq
    have FNq_13 := η (FNq.out.below HCB ν); clear FNq
    have HB13 := η (HB9.out.trans (HCB.mono HB9.out.size)); clear HCB HB9
    have FBt := η H; have FNt := η Nt; clear H Nt
    have rnt : w.heap.size + 1 + 1 + 1 + 1 < bt := Nat.lt_of_lt_of_le rlq bget; clear bget
    have rlt := FR_13.out.lt
    go_upto_region 4 with (fail)
    have M0 := trivial
    have QF := η (show ∀ w', Below wc.heap.size wc w' → w'.cell? ⟨w.heap.size, 0, none⟩ = some (.int .i64 ax) ∧ w'.cell? ⟨w.heap.size, 1, none⟩ = some (.int .i64 ay) ∧ w'.cell? ⟨w.heap.size + 1, 0, none⟩ = some (.int .i64 bx) ∧ w'.cell? ⟨w.heap.size + 1, 1, none⟩ = some (.int .i64 b_) ∧ w'.cell? ⟨w.heap.size + 1 + 1, 0, none⟩ = some (.int .i64 cx) ∧ w'.cell? ⟨w.heap.size + 1 + 1, 1, none⟩ = some (.int .i64 cy) ∧ w'.cell? ⟨w.heap.size + 1 + 1 + 1, 0, none⟩ = some (.int .i64 dx) ∧ w'.cell? ⟨w.heap.size + 1 + 1 + 1, 1, none⟩ = some (.int .i64 dy) from fun w' hb => ⟨(FP_13.out.below hb ν).cell 0 (v := .int .i64 ax) rfl, (FP_13.out.below hb ν).cell 1 (v := .int .i64 ay) rfl, (FQ_13.out.below hb ν).cell 0 (v := .int .i64 bx) rfl, (FQ_13.out.below hb ν).cell 1 (v := .int .i64 b_) rfl, (FT_13.out.below hb ν).cell 0 (v := .int .i64 cx) rfl, (FT_13.out.below hb ν).cell 1 (v := .int .i64 cy) rfl, (FV_13.out.below hb ν).cell 0 (v := .int .i64 dx) rfl, (FV_13.out.below hb ν).cell 1 (v := .int .i64 dy) rfl⟩)
    go_cut [12] (fun s12 wx => CutN wc ((dx * dx + dy * dy) * det ax ay bx b_ cx cy) 20 s12 wx)
    case first =>
     go_region_held3 (fun w' => w'.cell? ⟨w.heap.size, 0, none⟩ = some (.int .i64 ax) ∧ w'.cell? ⟨w.heap.size, 1, none⟩ = some (.int .i64 ay) ∧ w'.cell? ⟨w.heap.size + 1, 0, none⟩ = some (.int .i64 bx) ∧ w'.cell? ⟨w.heap.size + 1, 1, none⟩ = some (.int .i64 b_) ∧ w'.cell? ⟨w.heap.size + 1 + 1, 0, none⟩ = some (.int .i64 cx) ∧ w'.cell? ⟨w.heap.size + 1 + 1, 1, none⟩ = some (.int .i64 cy) ∧ w'.cell? ⟨w.heap.size + 1 + 1 + 1, 0, none⟩ = some (.int .i64 dx) ∧ w'.cell? ⟨w.heap.size + 1 + 1 + 1, 1, none⟩ = some (.int .i64 dy)) (first | (with_reducible refine QF.out _ ?_; (repeat (first | (with_reducible refine J9 ?_ ?_; (focus (first | with_reducible assumption | with_reducible exact Nat.le_refl _ | (simp; done) | omega | (simp <;> omega)))) | with_reducible refine J6 ?_ C16.out | with_reducible refine J6 ?_ C15.out | with_reducible refine J6 ?_ C14.out | with_reducible refine J8 ?_ | with_reducible exact J0 | with_reducible refine Ja ?_)); done) | (with_reducible refine QF.out _ ?_; (repeat (first | (with_reducible refine J9 ?_ ?_; (focus (first | with_reducible assumption | with_reducible exact Nat.le_refl _ | (simp; done) | omega | (simp <;> omega)))) | with_reducible refine J6 ?_ C15.out | with_reducible refine J6 ?_ C14.out | with_reducible refine J8 ?_ | with_reducible exact J0 | with_reducible refine Ja ?_)); done) | (with_reducible refine QF.out _ ?_; (repeat (first | (with_reducible refine J9 ?_ ?_; (focus (first | with_reducible assumption | with_reducible exact Nat.le_refl _ | (simp; done) | omega | (simp <;> omega)))) | with_reducible refine J6 ?_ C14.out | with_reducible refine J8 ?_ | with_reducible exact J0 | with_reducible refine Ja ?_)); done) | (with_reducible refine QF.out _ ?_; (repeat (first | (with_reducible refine J9 ?_ ?_; (focus (first | with_reducible assumption | with_reducible exact Nat.le_refl _ | (simp; done) | omega | (simp <;> omega)))) | with_reducible refine J8 ?_ | with_reducible exact J0 | with_reducible refine Ja ?_)); done)) (first
           | (go_at_call 32; clear M2; have M3 := trivial; refine (Zar P1 P2 p1 g1 p2 g2 _ _ _ (JA GL.out (by (repeat (first | with_reducible exact J0 | with_reducible refine J8 ?_ | with_reducible refine Ja ?_)))) (JA GD.out (by (repeat (first | with_reducible exact J0 | with_reducible refine J8 ?_ | with_reducible refine Ja ?_)))) (by omega) (by omega)).mono ?_; rintro e w16 ⟨⟨P3, p3, g3, rfl, d3, M3⟩, B⟩; have C16 := η B; clear B; have hs16 : wc.heap.size ≤ w16.heap.size := Below.size (B := wc.heap.size) (by (repeat (first | (with_reducible refine J9 ?_ ?_; (focus (first | with_reducible assumption | with_reducible exact Nat.le_refl _ | (simp; done) | omega | (simp <;> omega)))) | with_reducible refine J6 ?_ C16.out | with_reducible refine J6 ?_ C15.out | with_reducible refine J6 ?_ C14.out | with_reducible refine J8 ?_ | with_reducible exact J0 | with_reducible refine Ja ?_))); have GL_ := η (JA (w' := w16) GL.out (by (repeat (first | with_reducible exact J0 | with_reducible refine J6 ?_ C16.out | with_reducible refine J8 ?_ | with_reducible refine Ja ?_)))); clear GL; have GL := η GL_.out; clear GL_; have GD_ := η (JA (w' := w16) GD.out (by (repeat (first | with_reducible exact J0 | with_reducible refine J6 ?_ C16.out | with_reducible refine J8 ?_ | with_reducible refine Ja ?_)))); clear GD; have GD := η GD_.out; clear GD_; have GM := η M3; clear M3; (try (refine Jh (T := Bx w16 (wc.heap.size) #[.int .i64 0, .slice none 0 0] 41) ?_ (fun y16_0_0 => ?_); (focus ((repeat (first | (with_reducible refine Jb ?_; (focus (first | with_reducible rfl | (simp; done)))) | with_reducible refine Jg ?_ C16.out | with_reducible refine Jg ?_ C15.out | with_reducible refine Jg ?_ C14.out | with_reducible refine Jd (z0 := .slice none 0 0) (z1 := .slice none 0 0) ?_ | with_reducible refine Jd (z0 := .int .i64 0) (z1 := .slice none 0 0) ?_ | with_reducible refine Ji (z0 := .int .i64 0) (z1 := .slice none 0 0) (z2 := .int .i64 0) (z3 := .slice none 0 0) ?_ | (with_reducible refine Jl ?_ ?_; (focus (first | with_reducible assumption | with_reducible exact Nat.le_refl _ | (simp; done) | omega | (simp <;> omega)))) | with_reducible refine Jj ?_ | with_reducible refine Jf ?_)); done)); have y16_0_0c0 := y16_0_0.cell 0 (v := .int .i64 0) rfl; have y16_0_0f0 := y16_0_0.free 0; have y16_0_0c1 := y16_0_0.cell 1 (v := .slice none 0 0) rfl; have y16_0_0f1 := y16_0_0.free 1; have y16_0_0l := y16_0_0.lt; have y16_0_0n := Nat.ne_of_lt y16_0_0l; have y16_0_0m := Nat.ne_of_gt y16_0_0l; have y16_0_0h := η y16_0_0; clear y16_0_0)); (try (refine Jh (T := Bx w16 (w14.heap.size) #[.int .i64 0, .slice none 0 0] 41) ?_ (fun y16_1_0 => ?_); (focus ((repeat (first | (with_reducible refine Jb ?_; (focus (first | with_reducible rfl | (simp; done)))) | with_reducible refine Jg ?_ C16.out | with_reducible refine Jg ?_ C15.out | with_reducible refine Jg ?_ C14.out | with_reducible refine Jd (z0 := .slice none 0 0) (z1 := .slice none 0 0) ?_ | with_reducible refine Jd (z0 := .int .i64 0) (z1 := .slice none 0 0) ?_ | with_reducible refine Ji (z0 := .int .i64 0) (z1 := .slice none 0 0) (z2 := .int .i64 0) (z3 := .slice none 0 0) ?_ | (with_reducible refine Jl ?_ ?_; (focus (first | with_reducible assumption | with_reducible exact Nat.le_refl _ | (simp; done) | omega | (simp <;> omega)))) | with_reducible refine Jj ?_ | with_reducible refine Jf ?_)); done)); have y16_1_0c0 := y16_1_0.cell 0 (v := .int .i64 0) rfl; have y16_1_0f0 := y16_1_0.free 0; have y16_1_0c1 := y16_1_0.cell 1 (v := .slice none 0 0) rfl; have y16_1_0f1 := y16_1_0.free 1; have y16_1_0l := y16_1_0.lt; have y16_1_0n := Nat.ne_of_lt y16_1_0l; have y16_1_0m := Nat.ne_of_gt y16_1_0l; have y16_1_0h := η y16_1_0; clear y16_1_0)); (try (refine Jh (T := Bx w16 (w15.heap.size) #[.int .i64 0, .slice none 0 0] 41) ?_ (fun y16_2_0 => ?_); (focus ((repeat (first | (with_reducible refine Jb ?_; (focus (first | with_reducible rfl | (simp; done)))) | with_reducible refine Jg ?_ C16.out | with_reducible refine Jg ?_ C15.out | with_reducible refine Jg ?_ C14.out | with_reducible refine Jd (z0 := .slice none 0 0) (z1 := .slice none 0 0) ?_ | with_reducible refine Jd (z0 := .int .i64 0) (z1 := .slice none 0 0) ?_ | with_reducible refine Ji (z0 := .int .i64 0) (z1 := .slice none 0 0) (z2 := .int .i64 0) (z3 := .slice none 0 0) ?_ | (with_reducible refine Jl ?_ ?_; (focus (first | with_reducible assumption | with_reducible exact Nat.le_refl _ | (simp; done) | omega | (simp <;> omega)))) | with_reducible refine Jj ?_ | with_reducible refine Jf ?_)); done)); have y16_2_0c0 := y16_2_0.cell 0 (v := .int .i64 0) rfl; have y16_2_0f0 := y16_2_0.free 0; have y16_2_0c1 := y16_2_0.cell 1 (v := .slice none 0 0) rfl; have y16_2_0f1 := y16_2_0.free 1; have y16_2_0l := y16_2_0.lt; have y16_2_0n := Nat.ne_of_lt y16_2_0l; have y16_2_0m := Nat.ne_of_gt y16_2_0l; have y16_2_0h := η y16_2_0; clear y16_2_0)))
           | (go_at_call 31; clear M1; have M2 := trivial; refine (ZaC ax ay bx b_ cx cy (show P3 ax ay bx b_ cx cy from ⟨hp.a, hp.b, hp.c, hp.d, hp.e, hp.f⟩) _).mono ?_; rintro e w15 ⟨⟨P2, p2, g2, rfl, d2, M2⟩, B⟩; have C15 := η B; clear B; have hs15 : wc.heap.size ≤ w15.heap.size := Below.size (B := wc.heap.size) (by (repeat (first | (with_reducible refine J9 ?_ ?_; (focus (first | with_reducible assumption | with_reducible exact Nat.le_refl _ | (simp; done) | omega | (simp <;> omega)))) | with_reducible refine J6 ?_ C15.out | with_reducible refine J6 ?_ C14.out | with_reducible refine J8 ?_ | with_reducible exact J0 | with_reducible refine Ja ?_))); have GL_ := η (JA (w' := w15) GL.out (by (repeat (first | with_reducible exact J0 | with_reducible refine J6 ?_ C15.out | with_reducible refine J8 ?_ | with_reducible refine Ja ?_)))); clear GL; have GL := η GL_.out; clear GL_; have GD := η M2; clear M2; (try (refine Jh (T := Bx w15 (wc.heap.size) #[.int .i64 0, .slice none 0 0] 41) ?_ (fun y15_0_0 => ?_); (focus ((repeat (first | (with_reducible refine Jb ?_; (focus (first | with_reducible rfl | (simp; done)))) | with_reducible refine Jg ?_ C15.out | with_reducible refine Jg ?_ C14.out | with_reducible refine Jd (z0 := .slice none 0 0) (z1 := .slice none 0 0) ?_ | with_reducible refine Jd (z0 := .int .i64 0) (z1 := .slice none 0 0) ?_ | with_reducible refine Ji (z0 := .int .i64 0) (z1 := .slice none 0 0) (z2 := .int .i64 0) (z3 := .slice none 0 0) ?_ | (with_reducible refine Jl ?_ ?_; (focus (first | with_reducible assumption | with_reducible exact Nat.le_refl _ | (simp; done) | omega | (simp <;> omega)))) | with_reducible refine Jj ?_ | with_reducible refine Jf ?_)); done)); have y15_0_0c0 := y15_0_0.cell 0 (v := .int .i64 0) rfl; have y15_0_0f0 := y15_0_0.free 0; have y15_0_0c1 := y15_0_0.cell 1 (v := .slice none 0 0) rfl; have y15_0_0f1 := y15_0_0.free 1; have y15_0_0l := y15_0_0.lt; have y15_0_0n := Nat.ne_of_lt y15_0_0l; have y15_0_0m := Nat.ne_of_gt y15_0_0l; have y15_0_0h := η y15_0_0; clear y15_0_0)); (try (refine Jh (T := Bx w15 (w14.heap.size) #[.int .i64 0, .slice none 0 0] 41) ?_ (fun y15_1_0 => ?_); (focus ((repeat (first | (with_reducible refine Jb ?_; (focus (first | with_reducible rfl | (simp; done)))) | with_reducible refine Jg ?_ C15.out | with_reducible refine Jg ?_ C14.out | with_reducible refine Jd (z0 := .slice none 0 0) (z1 := .slice none 0 0) ?_ | with_reducible refine Jd (z0 := .int .i64 0) (z1 := .slice none 0 0) ?_ | with_reducible refine Ji (z0 := .int .i64 0) (z1 := .slice none 0 0) (z2 := .int .i64 0) (z3 := .slice none 0 0) ?_ | (with_reducible refine Jl ?_ ?_; (focus (first | with_reducible assumption | with_reducible exact Nat.le_refl _ | (simp; done) | omega | (simp <;> omega)))) | with_reducible refine Jj ?_ | with_reducible refine Jf ?_)); done)); have y15_1_0c0 := y15_1_0.cell 0 (v := .int .i64 0) rfl; have y15_1_0f0 := y15_1_0.free 0; have y15_1_0c1 := y15_1_0.cell 1 (v := .slice none 0 0) rfl; have y15_1_0f1 := y15_1_0.free 1; have y15_1_0l := y15_1_0.lt; have y15_1_0n := Nat.ne_of_lt y15_1_0l; have y15_1_0m := Nat.ne_of_gt y15_1_0l; have y15_1_0h := η y15_1_0; clear y15_1_0)))
           | (go_at_call 33; clear M0; have M1 := trivial; refine (Zbq dx dy hp.g hp.h _).mono ?_; rintro e w14 ⟨⟨P1, p1, g1, rfl, d1, M1⟩, B⟩; have C14 := η B; clear B; have hs14 : wc.heap.size ≤ w14.heap.size := Below.size (B := wc.heap.size) (by (repeat (first | (with_reducible refine J9 ?_ ?_; (focus (first | with_reducible assumption | with_reducible exact Nat.le_refl _ | (simp; done) | omega | (simp <;> omega)))) | with_reducible refine J6 ?_ C14.out | with_reducible refine J8 ?_ | with_reducible exact J0 | with_reducible refine Ja ?_))); have GL := η M1; clear M1; (try (refine Jh (T := Bx w14 (wc.heap.size) #[.int .i64 0, .slice none 0 0] 41) ?_ (fun y14_0_0 => ?_); (focus ((repeat (first | (with_reducible refine Jb ?_; (focus (first | with_reducible rfl | (simp; done)))) | with_reducible refine Jg ?_ C14.out | with_reducible refine Jd (z0 := .slice none 0 0) (z1 := .slice none 0 0) ?_ | with_reducible refine Jd (z0 := .int .i64 0) (z1 := .slice none 0 0) ?_ | with_reducible refine Ji (z0 := .int .i64 0) (z1 := .slice none 0 0) (z2 := .int .i64 0) (z3 := .slice none 0 0) ?_ | (with_reducible refine Jl ?_ ?_; (focus (first | with_reducible assumption | with_reducible exact Nat.le_refl _ | (simp; done) | omega | (simp <;> omega)))) | with_reducible refine Jj ?_ | with_reducible refine Jf ?_)); done)); have y14_0_0c0 := y14_0_0.cell 0 (v := .int .i64 0) rfl; have y14_0_0f0 := y14_0_0.free 0; have y14_0_0c1 := y14_0_0.cell 1 (v := .slice none 0 0) rfl; have y14_0_0f1 := y14_0_0.free 1; have y14_0_0l := y14_0_0.lt; have y14_0_0n := Nat.ne_of_lt y14_0_0l; have y14_0_0m := Nat.ne_of_gt y14_0_0l; have y14_0_0h := η y14_0_0; clear y14_0_0))))
     all_goals (go_wp2_with fail; go_meet; exact ⟨_, P3, p3, g3, rfl, (by first | with_reducible exact Nat.le_refl _ | with_reducible assumption | omega), by (repeat (first | with_reducible exact y16_0_0h.out | with_reducible exact y16_1_0h.out | with_reducible exact y16_2_0h.out | (with_reducible refine Jd (z0 := .int .i64 0) (z1 := .slice none 0 0) ?_) | (with_reducible refine Jb ?_; (focus (first | with_reducible rfl | (simp; done)))) | with_reducible refine Jj ?_ | (with_reducible refine Jl ?_ ?_; (focus (first | with_reducible assumption | (simp; done) | omega | (simp <;> omega)))) | with_reducible refine Jf ?_)), by omega, by (repeat (first | with_reducible exact GM.out | (with_reducible refine Zcv (t := 41) (z0 := .int .i64 0) (z1 := .slice none 0 0) (by decide) ?_ ?_; (focus ((repeat (first | with_reducible exact y16_0_0h.out | with_reducible exact y16_1_0h.out | with_reducible exact y16_2_0h.out | (with_reducible refine Jd (z0 := .int .i64 0) (z1 := .slice none 0 0) ?_) | (with_reducible refine Jb ?_; (focus (first | with_reducible rfl | (simp; done)))) | with_reducible refine Jj ?_ | (with_reducible refine Jl ?_ ?_; (focus (first | with_reducible assumption | (simp; done) | omega | (simp <;> omega)))) | with_reducible refine Jf ?_)); done))) | with_reducible refine ZeN ?_ | with_reducible refine ZeM ?_)), by (repeat (first | (with_reducible refine J9 ?_ ?_; (focus (first | with_reducible assumption | with_reducible exact Nat.le_refl _ | (simp; done) | omega | (simp <;> omega)))) | with_reducible refine J6 ?_ C16.out | with_reducible refine J6 ?_ C15.out | with_reducible refine J6 ?_ C14.out | with_reducible refine J8 ?_ | with_reducible exact J0 | with_reducible refine Ja ?_))⟩)
    case rest =>
     clear QF M0
     obtain ⟨bv, Zv, zv, yv, rfl, bgev, H, zkv, Nv, HCB⟩ := hcut
     have FP_17 := η (FP_13.out.below HCB ν); clear FP_13
     have FQ_17 := η (FQ_13.out.below HCB ν); clear FQ_13
     have FT_17 := η (FT_13.out.below HCB ν); clear FT_13
     have FV_17 := η (FV_13.out.below HCB ν); clear FV_13
     have FR_17 := η (FR_13.out.below HCB ν); clear FR_13
     have FBp_17 := η (FBp_13.out.below HCB ν); clear FBp_13
     have FNp_17 := η (FNp_13.out.below HCB ν); clear FNp_13
     have FBq_17 := η (FBq_13.out.below HCB ν); clear FBq_13
     have FNq_17 := η (FNq_13.out.below HCB ν); clear FNq_13
     have FBt_17 := η (FBt.out.below HCB ν); clear FBt
     have FNt_17 := η (FNt.out.below HCB ν); clear FNt
     have HB17 := η (HB13.out.trans (HCB.mono HB13.out.size)); clear HCB HB13
     have FBv := η H; have FNv := η Nv; clear H Nv
     have rnv : w.heap.size + 1 + 1 + 1 + 1 < bv := Nat.lt_of_lt_of_le rlt bgev; clear bgev
     have rlv := FR_17.out.lt
     go_wp2_with fail
     have RB17 := η (Je wc)
     have QS17 := η (show wc.cell? ⟨bp, 0, none⟩ = some (.int .i64 (sg ((ax * ax + ay * ay) * det bx b_ cx cy dx dy))) ∧ wc.cell? ⟨bp, 1, none⟩ = some (.slice Zp zp yp) ∧ wc.cell? ⟨bq, 0, none⟩ = some (.int .i64 (sg ((bx * bx + b_ * b_) * det ax ay cx cy dx dy))) ∧ wc.cell? ⟨bq, 1, none⟩ = some (.slice Zq zq yq) ∧ wc.cell? ⟨bt, 0, none⟩ = some (.int .i64 (sg ((cx * cx + cy * cy) * det ax ay bx b_ dx dy))) ∧ wc.cell? ⟨bt, 1, none⟩ = some (.slice Zt zt yt) ∧ wc.cell? ⟨bv, 0, none⟩ = some (.int .i64 (sg ((dx * dx + dy * dy) * det ax ay bx b_ cx cy))) ∧ wc.cell? ⟨bv, 1, none⟩ = some (.slice Zv zv yv) from ⟨FBp_17.out.cell 0 (v := .int .i64 (sg ((ax * ax + ay * ay) * det bx b_ cx cy dx dy))) rfl, FBp_17.out.cell 1 (v := .slice Zp zp yp) rfl, FBq_17.out.cell 0 (v := .int .i64 (sg ((bx * bx + b_ * b_) * det ax ay cx cy dx dy))) rfl, FBq_17.out.cell 1 (v := .slice Zq zq yq) rfl, FBt_17.out.cell 0 (v := .int .i64 (sg ((cx * cx + cy * cy) * det ax ay bx b_ dx dy))) rfl, FBt_17.out.cell 1 (v := .slice Zt zt yt) rfl, FBv.out.cell 0 (v := .int .i64 (sg ((dx * dx + dy * dy) * det ax ay bx b_ cx cy))) rfl, FBv.out.cell 1 (v := .slice Zv zv yv) rfl⟩)
     have QF17 := η (show ∀ w', Below wc.heap.size wc w' → w'.cell? ⟨bp, 0, none⟩ = some (.int .i64 (sg ((ax * ax + ay * ay) * det bx b_ cx cy dx dy))) ∧ w'.cell? ⟨bp, 1, none⟩ = some (.slice Zp zp yp) ∧ w'.cell? ⟨bq, 0, none⟩ = some (.int .i64 (sg ((bx * bx + b_ * b_) * det ax ay cx cy dx dy))) ∧ w'.cell? ⟨bq, 1, none⟩ = some (.slice Zq zq yq) ∧ w'.cell? ⟨bt, 0, none⟩ = some (.int .i64 (sg ((cx * cx + cy * cy) * det ax ay bx b_ dx dy))) ∧ w'.cell? ⟨bt, 1, none⟩ = some (.slice Zt zt yt) ∧ w'.cell? ⟨bv, 0, none⟩ = some (.int .i64 (sg ((dx * dx + dy * dy) * det ax ay bx b_ cx cy))) ∧ w'.cell? ⟨bv, 1, none⟩ = some (.slice Zv zv yv) from fun w' hb => ⟨(FBp_17.out.below hb ν).cell 0 (v := .int .i64 (sg ((ax * ax + ay * ay) * det bx b_ cx cy dx dy))) rfl, (FBp_17.out.below hb ν).cell 1 (v := .slice Zp zp yp) rfl, (FBq_17.out.below hb ν).cell 0 (v := .int .i64 (sg ((bx * bx + b_ * b_) * det ax ay cx cy dx dy))) rfl, (FBq_17.out.below hb ν).cell 1 (v := .slice Zq zq yq) rfl, (FBt_17.out.below hb ν).cell 0 (v := .int .i64 (sg ((cx * cx + cy * cy) * det ax ay bx b_ dx dy))) rfl, (FBt_17.out.below hb ν).cell 1 (v := .slice Zt zt yt) rfl, (FBv.out.below hb ν).cell 0 (v := .int .i64 (sg ((dx * dx + dy * dy) * det ax ay bx b_ cx cy))) rfl, (FBv.out.below hb ν).cell 1 (v := .slice Zv zv yv) rfl⟩)
     go_region_held3 (fun w' => w'.cell? ⟨bp, 0, none⟩ = some (.int .i64 (sg ((ax * ax + ay * ay) * det bx b_ cx cy dx dy))) ∧ w'.cell? ⟨bp, 1, none⟩ = some (.slice Zp zp yp) ∧ w'.cell? ⟨bq, 0, none⟩ = some (.int .i64 (sg ((bx * bx + b_ * b_) * det ax ay cx cy dx dy))) ∧ w'.cell? ⟨bq, 1, none⟩ = some (.slice Zq zq yq) ∧ w'.cell? ⟨bt, 0, none⟩ = some (.int .i64 (sg ((cx * cx + cy * cy) * det ax ay bx b_ dx dy))) ∧ w'.cell? ⟨bt, 1, none⟩ = some (.slice Zt zt yt) ∧ w'.cell? ⟨bv, 0, none⟩ = some (.int .i64 (sg ((dx * dx + dy * dy) * det ax ay bx b_ cx cy))) ∧ w'.cell? ⟨bv, 1, none⟩ = some (.slice Zv zv yv)) (first | with_reducible exact QF17.out _ RB20.out | with_reducible exact QF17.out _ RB19.out | with_reducible exact QF17.out _ RB18.out | with_reducible exact QS17.out | with_reducible exact QF17.out _ RB17.out | with_reducible exact ⟨Jc (Jc ((QF17.out _ RB20.out).1) (by simp <;> omega)) (by simp <;> omega), Jc (Jc ((QF17.out _ RB20.out).2.1) (by simp <;> omega)) (by simp <;> omega), Jc (Jc ((QF17.out _ RB20.out).2.2.1) (by simp <;> omega)) (by simp <;> omega), Jc (Jc ((QF17.out _ RB20.out).2.2.2.1) (by simp <;> omega)) (by simp <;> omega), Jc (Jc ((QF17.out _ RB20.out).2.2.2.2.1) (by simp <;> omega)) (by simp <;> omega), Jc (Jc ((QF17.out _ RB20.out).2.2.2.2.2.1) (by simp <;> omega)) (by simp <;> omega), Jc (Jc ((QF17.out _ RB20.out).2.2.2.2.2.2.1) (by simp <;> omega)) (by simp <;> omega), Jc (Jc ((QF17.out _ RB20.out).2.2.2.2.2.2.2) (by simp <;> omega)) (by simp <;> omega)⟩) (first
           | (go_at_call 34; have := RB19; clear this; refine (Ze7 P1 P2 p1 g1 p2 g2 _ _ _ (Zi0 ax ay bx b_ cx cy dx dy) _ RM1_19.out RM2_19.out (by omega) (by omega)).mono ?_; rintro e w20 ⟨⟨P3, p3, g3, rfl, d3, M3⟩, B⟩; have RB20 := η (RB19.out.trans (B.mono RB19.out.size)); have RM1_20 := η (RM1_19.out.below B ν); have RM2_20 := η (RM2_19.out.below B ν); have RM3_20 := η M3; clear B M3; have q0 := (FR_17.out.below RB20.out ν).cell 0 (v := .int .i64 0) rfl; have q1 := (FR_17.out.below RB20.out ν).cell 1 (v := .slice none 0 0) rfl; have z0 := (FR_17.out.below RB20.out ν).free 0; have z1 := (FR_17.out.below RB20.out ν).free 1)
           | (go_at_call 35; have := RB18; clear this; refine (ZbR Zt Zv zt yt zv yv _ _ _ (FNt_17.out.below RB18.out ν) (FNv.out.below RB18.out ν) (by omega) (by omega)).mono ?_; rintro e w19 ⟨⟨P2, p2, g2, rfl, d2, M2⟩, B⟩; have RB19 := η (RB18.out.trans (B.mono RB18.out.size)); have RM1_19 := η (RM1_18.out.below B ν); have RM2_19 := η M2; clear B M2)
           | (go_at_call 35; have := RB17; clear this; refine (ZbR Zp Zq zp yp zq yq _ _ _ (FNp_17.out.below RB17.out ν) (FNq_17.out.below RB17.out ν) (by omega) (by omega)).mono ?_; rintro e w18 ⟨⟨P1, p1, g1, rfl, d1, M1⟩, B⟩; have RB18 := η (RB17.out.trans (B.mono RB17.out.size)); have RM1_18 := η M1; clear B M1))
     have FP_20 := η (FP_17.out.below RB20.out ν)
     have FQ_20 := η (FQ_17.out.below RB20.out ν)
     have FT_20 := η (FT_17.out.below RB20.out ν)
     have FV_20 := η (FV_17.out.below RB20.out ν)
     have FR_20 := η (FR_17.out.below RB20.out ν)
     have FBp_20 := η (FBp_17.out.below RB20.out ν)
     have FNp_20 := η (FNp_17.out.below RB20.out ν)
     have FBq_20 := η (FBq_17.out.below RB20.out ν)
     have FNq_20 := η (FNq_17.out.below RB20.out ν)
     have FBt_20 := η (FBt_17.out.below RB20.out ν)
     have FNt_20 := η (FNt_17.out.below RB20.out ν)
     have FBv_20 := η (FBv.out.below RB20.out ν)
     have FNv_20 := η (FNv.out.below RB20.out ν)
     have HB20 := η (HB17.out.trans (RB20.out.mono HB17.out.size))
     clear HB17 FP_17 FQ_17 FT_17 FV_17 FR_17 FBp_17 FNp_17 FBq_17 FNq_17 FBt_17 FNt_17 FBv FNv
     go_wp2_with fail
     have r0 := FR_20.out
     have r1 := r0.set 0 (.int .i64 (sg (circ ax ay bx b_ cx cy dx dy)))
     refine bodyPost_ret (v := .agg #[.int .i64 (sg (circ ax ay bx b_ cx cy dx dy)), .slice P3 p3 g3]) (by simp [results, Tryz.results13, go_sem, q0, q1]) rfl ⟨⟨P3, p3, g3, rfl, by omega, ((RM3_20.out.setB r0 (by decide)).setB r1 (by decide))⟩, ?_⟩
     exact ((HB20.out.setCell (p := ⟨w.heap.size + 1 + 1 + 1 + 1, 0, none⟩) (by simp <;> omega) _).setCell (p := ⟨w.heap.size + 1 + 1 + 1 + 1, 1, none⟩) (by simp <;> omega) _)
set_option maxHeartbeats 2000000 in
theorem ZhE (ax ay bx b_ cx cy dx dy : Int) (hp : P4 ax ay bx b_ cx cy dx dy) (w : World) :
  Calls Tryz.prog 125 #[.agg #[.int .i64 ax, .int .i64 ay], .agg #[.int .i64 bx, .int .i64 b_], .agg #[.int .i64 cx, .int .i64 cy], .agg #[.int .i64 dx, .int .i64 dy]] w fun e w' => e = .returned (.int .i64 (sg (circ ax ay bx b_ cx cy dx dy) * sg (det ax ay bx b_ cx cy))) ∧ Below w.heap.size w w' := by
 have HB0 := η (Below.refl w.heap.size w)
 have r1 := Jr (circ ax ay bx b_ cx cy dx dy); have r2 := Jr (det ax ay bx b_ cx cy)
 have hw := Zf6 (circ ax ay bx b_ cx cy dx dy) (det ax ay bx b_ cx cy)
 have hfd : ∀ (s : Int) (V : Option Addr) (k c : Nat) (w : World), (Instr.field 41 (.agg #[.int .i64 s, .slice V k c]) 0).run Tryz.prog w = .ok (.int .i64 s) w := fun _ _ _ _ _ => by kernel_rfl
 go_enter Tryz.func125, Tryz.ntmps125
 go_wp2_with fail
 have B : Below w.heap.size w ((((w.alloc (.cells #[.int .i64 ax, .int .i64 ay] 23)).alloc (.cells #[.int .i64 bx, .int .i64 b_] 23)).alloc (.cells #[.int .i64 cx, .int .i64 cy] 23)).alloc (.cells #[.int .i64 dx, .int .i64 dy] 23)) := ((((HB0.out.alloc HB0.out.size _).alloc (HB0.out.alloc HB0.out.size _).size _).alloc ((HB0.out.alloc HB0.out.size _).alloc (HB0.out.alloc HB0.out.size _).size _).size _).alloc (((HB0.out.alloc HB0.out.size _).alloc (HB0.out.alloc HB0.out.size _).size _).alloc ((HB0.out.alloc HB0.out.size _).alloc (HB0.out.alloc HB0.out.size _).size _).size _).size _)
 have C : Below w.heap.size w ((((w.alloc (.cells #[.int .i64 ax, .int .i64 ay] 23)).alloc (.cells #[.int .i64 bx, .int .i64 b_] 23)).alloc (.cells #[.int .i64 cx, .int .i64 cy] 23)).alloc (.cells #[.int .i64 dx, .int .i64 dy] 23)) := (((((Below.refl w.heap.size w).alloc ν _).alloc (by simp; try omega) _).alloc (by simp; try omega) _).alloc (by simp; try omega) _)
 have X0 : Bx ((((w.alloc (.cells #[.int .i64 ax, .int .i64 ay] 23)).alloc (.cells #[.int .i64 bx, .int .i64 b_] 23)).alloc (.cells #[.int .i64 cx, .int .i64 cy] 23)).alloc (.cells #[.int .i64 dx, .int .i64 dy] 23)) (w.heap.size) #[.int .i64 ax, .int .i64 ay] 23 := by simpa using ((((Bx.new w #[.int .i64 ax, .int .i64 ay] 23).alloc _).alloc _).alloc _)
 have X1 : Bx ((((w.alloc (.cells #[.int .i64 ax, .int .i64 ay] 23)).alloc (.cells #[.int .i64 bx, .int .i64 b_] 23)).alloc (.cells #[.int .i64 cx, .int .i64 cy] 23)).alloc (.cells #[.int .i64 dx, .int .i64 dy] 23)) (w.heap.size + 1) #[.int .i64 bx, .int .i64 b_] 23 := by simpa using (((Bx.new (w.alloc (.cells #[.int .i64 ax, .int .i64 ay] 23)) #[.int .i64 bx, .int .i64 b_] 23).alloc _).alloc _)
 have X2 : Bx ((((w.alloc (.cells #[.int .i64 ax, .int .i64 ay] 23)).alloc (.cells #[.int .i64 bx, .int .i64 b_] 23)).alloc (.cells #[.int .i64 cx, .int .i64 cy] 23)).alloc (.cells #[.int .i64 dx, .int .i64 dy] 23)) (w.heap.size + 1 + 1) #[.int .i64 cx, .int .i64 cy] 23 := by simpa using ((Bx.new ((w.alloc (.cells #[.int .i64 ax, .int .i64 ay] 23)).alloc (.cells #[.int .i64 bx, .int .i64 b_] 23)) #[.int .i64 cx, .int .i64 cy] 23).alloc _)
 have X3 : Bx ((((w.alloc (.cells #[.int .i64 ax, .int .i64 ay] 23)).alloc (.cells #[.int .i64 bx, .int .i64 b_] 23)).alloc (.cells #[.int .i64 cx, .int .i64 cy] 23)).alloc (.cells #[.int .i64 dx, .int .i64 dy] 23)) (w.heap.size + 1 + 1 + 1) #[.int .i64 dx, .int .i64 dy] 23 := by simpa using (Bx.new (((w.alloc (.cells #[.int .i64 ax, .int .i64 ay] 23)).alloc (.cells #[.int .i64 bx, .int .i64 b_] 23)).alloc (.cells #[.int .i64 cx, .int .i64 cy] 23)) #[.int .i64 dx, .int .i64 dy] 23)
 have HB1 := η B
 have FP_1 := η X0
 have FQ_1 := η X1
 have FT_1 := η X2
 have FV_1 := η X3
 clear B C X0 X1 X2 X3 HB0
 generalize ((((w.alloc (.cells #[.int .i64 ax, .int .i64 ay] 23)).alloc (.cells #[.int .i64 bx, .int .i64 b_] 23)).alloc (.cells #[.int .i64 cx, .int .i64 cy] 23)).alloc (.cells #[.int .i64 dx, .int .i64 dy] 23)) = w1 at *
 have RB1 := η (Je w1)
 have QS1 := η (show w1.cell? ⟨w.heap.size, 0, none⟩ = some (.int .i64 ax) ∧ w1.cell? ⟨w.heap.size, 1, none⟩ = some (.int .i64 ay) ∧ w1.cell? ⟨w.heap.size + 1, 0, none⟩ = some (.int .i64 bx) ∧ w1.cell? ⟨w.heap.size + 1, 1, none⟩ = some (.int .i64 b_) ∧ w1.cell? ⟨w.heap.size + 1 + 1, 0, none⟩ = some (.int .i64 cx) ∧ w1.cell? ⟨w.heap.size + 1 + 1, 1, none⟩ = some (.int .i64 cy) ∧ w1.cell? ⟨w.heap.size + 1 + 1 + 1, 0, none⟩ = some (.int .i64 dx) ∧ w1.cell? ⟨w.heap.size + 1 + 1 + 1, 1, none⟩ = some (.int .i64 dy) from ⟨FP_1.out.cell 0 (v := .int .i64 ax) rfl, FP_1.out.cell 1 (v := .int .i64 ay) rfl, FQ_1.out.cell 0 (v := .int .i64 bx) rfl, FQ_1.out.cell 1 (v := .int .i64 b_) rfl, FT_1.out.cell 0 (v := .int .i64 cx) rfl, FT_1.out.cell 1 (v := .int .i64 cy) rfl, FV_1.out.cell 0 (v := .int .i64 dx) rfl, FV_1.out.cell 1 (v := .int .i64 dy) rfl⟩)
 have QF1 := η (show ∀ w', Below w1.heap.size w1 w' → w'.cell? ⟨w.heap.size, 0, none⟩ = some (.int .i64 ax) ∧ w'.cell? ⟨w.heap.size, 1, none⟩ = some (.int .i64 ay) ∧ w'.cell? ⟨w.heap.size + 1, 0, none⟩ = some (.int .i64 bx) ∧ w'.cell? ⟨w.heap.size + 1, 1, none⟩ = some (.int .i64 b_) ∧ w'.cell? ⟨w.heap.size + 1 + 1, 0, none⟩ = some (.int .i64 cx) ∧ w'.cell? ⟨w.heap.size + 1 + 1, 1, none⟩ = some (.int .i64 cy) ∧ w'.cell? ⟨w.heap.size + 1 + 1 + 1, 0, none⟩ = some (.int .i64 dx) ∧ w'.cell? ⟨w.heap.size + 1 + 1 + 1, 1, none⟩ = some (.int .i64 dy) from fun w' hb => ⟨(FP_1.out.below hb ν).cell 0 (v := .int .i64 ax) rfl, (FP_1.out.below hb ν).cell 1 (v := .int .i64 ay) rfl, (FQ_1.out.below hb ν).cell 0 (v := .int .i64 bx) rfl, (FQ_1.out.below hb ν).cell 1 (v := .int .i64 b_) rfl, (FT_1.out.below hb ν).cell 0 (v := .int .i64 cx) rfl, (FT_1.out.below hb ν).cell 1 (v := .int .i64 cy) rfl, (FV_1.out.below hb ν).cell 0 (v := .int .i64 dx) rfl, (FV_1.out.below hb ν).cell 1 (v := .int .i64 dy) rfl⟩)
 go_region_held3 (fun w' => w'.cell? ⟨w.heap.size, 0, none⟩ = some (.int .i64 ax) ∧ w'.cell? ⟨w.heap.size, 1, none⟩ = some (.int .i64 ay) ∧ w'.cell? ⟨w.heap.size + 1, 0, none⟩ = some (.int .i64 bx) ∧ w'.cell? ⟨w.heap.size + 1, 1, none⟩ = some (.int .i64 b_) ∧ w'.cell? ⟨w.heap.size + 1 + 1, 0, none⟩ = some (.int .i64 cx) ∧ w'.cell? ⟨w.heap.size + 1 + 1, 1, none⟩ = some (.int .i64 cy) ∧ w'.cell? ⟨w.heap.size + 1 + 1 + 1, 0, none⟩ = some (.int .i64 dx) ∧ w'.cell? ⟨w.heap.size + 1 + 1 + 1, 1, none⟩ = some (.int .i64 dy)) (first | with_reducible exact QF1.out _ RB3.out | with_reducible exact QF1.out _ RB2.out | with_reducible exact QS1.out | with_reducible exact QF1.out _ RB1.out) (first
   | (go_at_call 12; have := RB2; clear this; refine (Zbn _ _ _ _ _ _ ⟨hp.a, hp.b, hp.c, hp.d, hp.e, hp.f⟩ _).mono ?_; rintro e w3 ⟨rfl, B⟩; have RB3 := η (RB2.out.trans (B.mono RB2.out.size)); clear B )
   | (go_at_call 13; have := RB1; clear this; refine (ZgR _ _ _ _ _ _ _ _ hp _).mono ?_; rintro e w2 ⟨⟨P1, p1, g1, rfl, d1, M1⟩, B⟩; have RB2 := η (RB1.out.trans (B.mono RB1.out.size)); clear B ; clear M1))
 have FP_3 := η (FP_1.out.below RB3.out ν)
 have FQ_3 := η (FQ_1.out.below RB3.out ν)
 have FT_3 := η (FT_1.out.below RB3.out ν)
 have FV_3 := η (FV_1.out.below RB3.out ν)
 have HB3 := η (HB1.out.trans (RB3.out.mono HB1.out.size))
 clear HB1 FP_1 FQ_1 FT_1 FV_1
 go_wp2_with fail
 go_ret
 exact ⟨rfl, HB3.out⟩




theorem Zii (x : Int) : (sg x == 0) = decide (x = 0) := by
 unfold sg; rcases (by omega : x < 0 ∨ x = 0 ∨ 0 < x) with h | h | h
 ·rw [Int.sign_eq_neg_one_of_neg h]; simp; omega
 ·subst h; rfl
 ·rw [Int.sign_eq_one_of_pos h]; simp; omega
theorem Zfx (b off c : Nat) (ax ay bx b_ cx cy : Int) (hp : P3 ax ay bx b_ cx cy) (w : World) (hc : 3 ≤ c) (hx : C6 w b off ax ay bx b_ cx cy) :
  Calls Tryz.prog 64 #[.slice (some ⟨b, off, none⟩) 3 c] w fun e w' => e = .returned (.bool (!decide (det ax ay bx b_ cx cy = 0))) ∧ Below w.heap.size w w' := by
 have HB0 := η (Below.refl w.heap.size w)
 have FX := η hx
 clear hx
 have hr := Jr (det ax ay bx b_ cx cy)
 rw [show (!decide (det ax ay bx b_ cx cy = 0)) = (sg (det ax ay bx b_ cx cy) != 0) from by rw [bne, Zii]]
 go_enter Tryz.func64, Tryz.ntmps64
 go_wp2_with fail
 have RB0 := η (Je w)
 have QF0 := η (show ∀ w', Below w.heap.size w w' → w'.cell? ⟨b, off, none⟩ = some (.int .i64 ax) ∧ w'.cell? ⟨b, off + 1, none⟩ = some (.int .i64 ay) ∧ w'.cell? ⟨b, off + 2, none⟩ = some (.int .i64 bx) ∧ w'.cell? ⟨b, off + 3, none⟩ = some (.int .i64 b_) ∧ w'.cell? ⟨b, off + 4, none⟩ = some (.int .i64 cx) ∧ w'.cell? ⟨b, off + 5, none⟩ = some (.int .i64 cy) from fun w' hb => ⟨(FX.out.below hb ν).c0, (FX.out.below hb ν).c1, (FX.out.below hb ν).c2, (FX.out.below hb ν).c3, (FX.out.below hb ν).c4, (FX.out.below hb ν).c5⟩)
 refine wp_region_held_drew (S := fun w' => w'.cell? ⟨b, off, none⟩ = some (.int .i64 ax) ∧ w'.cell? ⟨b, off + 1, none⟩ = some (.int .i64 ay) ∧ w'.cell? ⟨b, off + 2, none⟩ = some (.int .i64 bx) ∧ w'.cell? ⟨b, off + 3, none⟩ = some (.int .i64 b_) ∧ w'.cell? ⟨b, off + 4, none⟩ = some (.int .i64 cx) ∧ w'.cell? ⟨b, off + 5, none⟩ = some (.int .i64 cy)) (by kernel_rfl) (QF0.out _ RB0.out) (fun hHeld => ?_)
 refine tk 0 hHeld ?_
 refine tk 1 hHeld ?_
 refine tk 2 hHeld ?_
 refine tk 3 hHeld ?_
 refine tk 4 hHeld ?_
 refine tk 5 hHeld ?_
 refine tk 6 hHeld ?_
 refine tk 7 hHeld ?_
 refine tk 8 hHeld ?_
 refine tk 9 hHeld ?_
 refine tk 10 hHeld ?_
 refine tk 11 hHeld ?_
 refine tk 12 hHeld ?_
 refine cl 13 (fun K hK => ?_)
 go_simp
 refine (Zbn _ _ _ _ _ _ hp _).mono ?_
 rintro e w1 ⟨rfl, B⟩
 have RB1 := η (RB0.out.trans (B.mono RB0.out.size))
 clear B
 go_wp2_with fail
 refine hK.out _ _ (QF0.out _ RB1.out) (fun hHeld1 => ?_)
 clear hK K hHeld; have hHeld := hHeld1; clear hHeld1
 try simp only [Act.put, List.setIfInBounds_toArray, List.set_cons_zero, List.set_cons_succ]
 refine tk 14 hHeld ?_
 refine tk 15 hHeld ?_
 refine tk 16 hHeld ?_
 refine wpAnyH_done (by kernel_rfl) ?_ _
 have FX_1 := η (FX.out.below RB1.out ν)
 have HB1 := η (HB0.out.trans (RB1.out.mono HB0.out.size))
 clear hHeld HB0 FX
 go_wp2_with fail
 go_ret
 exact ⟨rfl, HB1.out⟩
theorem ZeJ (b off c : Nat) (ax ay bx b_ cx cy dx dy : Int) (hp : P4 ax ay bx b_ cx cy dx dy) (w : World) (hc : 3 ≤ c) (hx : C6 w b off ax ay bx b_ cx cy) :
  Calls Tryz.prog 98 #[.slice (some ⟨b, off, none⟩) 3 c, .agg #[.int .i64 dx, .int .i64 dy]] w fun e w' => e = .returned (.int .i64 (sg (circ ax ay bx b_ cx cy dx dy) * sg (det ax ay bx b_ cx cy))) ∧ Below w.heap.size w w' := by
 have HB0 := η (Below.refl w.heap.size w)
 have FX := η hx
 clear hx
 go_enter Tryz.func98, Tryz.ntmps98
 go_wp2_with fail
 have B : Below w.heap.size w (w.alloc (.cells #[.int .i64 dx, .int .i64 dy] 23)) := (HB0.out.alloc HB0.out.size _)
 have C : Below w.heap.size w (w.alloc (.cells #[.int .i64 dx, .int .i64 dy] 23)) := ((Below.refl w.heap.size w).alloc ν _)
 have X0 : Bx (w.alloc (.cells #[.int .i64 dx, .int .i64 dy] 23)) (w.heap.size) #[.int .i64 dx, .int .i64 dy] 23 := by simpa using (Bx.new w #[.int .i64 dx, .int .i64 dy] 23)
 have FX_1 := η (FX.out.below C ν)
 have HB1 := η B
 have FP_1 := η X0
 clear B C X0 HB0 FX
 generalize (w.alloc (.cells #[.int .i64 dx, .int .i64 dy] 23)) = w1 at *
 have RB1 := η (Je w1)
 have QF1 := η (show ∀ w', Below w1.heap.size w1 w' → w'.cell? ⟨b, off, none⟩ = some (.int .i64 ax) ∧ w'.cell? ⟨b, off + 1, none⟩ = some (.int .i64 ay) ∧ w'.cell? ⟨b, off + 2, none⟩ = some (.int .i64 bx) ∧ w'.cell? ⟨b, off + 3, none⟩ = some (.int .i64 b_) ∧ w'.cell? ⟨b, off + 4, none⟩ = some (.int .i64 cx) ∧ w'.cell? ⟨b, off + 5, none⟩ = some (.int .i64 cy) ∧ w'.cell? ⟨w.heap.size, 0, none⟩ = some (.int .i64 dx) ∧ w'.cell? ⟨w.heap.size, 1, none⟩ = some (.int .i64 dy) from fun w' hb => ⟨(FX_1.out.below hb ν).c0, (FX_1.out.below hb ν).c1, (FX_1.out.below hb ν).c2, (FX_1.out.below hb ν).c3, (FX_1.out.below hb ν).c4, (FX_1.out.below hb ν).c5, (FP_1.out.below hb ν).cell 0 (v := .int .i64 dx) rfl, (FP_1.out.below hb ν).cell 1 (v := .int .i64 dy) rfl⟩)
 refine wp_region_held_drew (S := fun w' => w'.cell? ⟨b, off, none⟩ = some (.int .i64 ax) ∧ w'.cell? ⟨b, off + 1, none⟩ = some (.int .i64 ay) ∧ w'.cell? ⟨b, off + 2, none⟩ = some (.int .i64 bx) ∧ w'.cell? ⟨b, off + 3, none⟩ = some (.int .i64 b_) ∧ w'.cell? ⟨b, off + 4, none⟩ = some (.int .i64 cx) ∧ w'.cell? ⟨b, off + 5, none⟩ = some (.int .i64 cy) ∧ w'.cell? ⟨w.heap.size, 0, none⟩ = some (.int .i64 dx) ∧ w'.cell? ⟨w.heap.size, 1, none⟩ = some (.int .i64 dy)) (by kernel_rfl) (QF1.out _ RB1.out) (fun hHeld => ?_)
 refine tk 0 hHeld ?_
 refine tk 1 hHeld ?_
 refine tk 2 hHeld ?_
 refine tk 3 hHeld ?_
 refine tk 4 hHeld ?_
 refine tk 5 hHeld ?_
 refine tk 6 hHeld ?_
 refine tk 7 hHeld ?_
 refine tk 8 hHeld ?_
 refine tk 9 hHeld ?_
 refine cl 10 (fun K hK => ?_)
 go_simp
 refine (ZhE _ _ _ _ _ _ _ _ hp _).mono ?_
 rintro e w2 ⟨rfl, B⟩
 have RB2 := η (RB1.out.trans (B.mono RB1.out.size))
 clear B
 go_wp2_with fail
 refine hK.out _ _ (QF1.out _ RB2.out) (fun hHeld2 => ?_)
 clear hK K hHeld; have hHeld := hHeld2; clear hHeld2
 try simp only [Act.put, List.setIfInBounds_toArray, List.set_cons_zero, List.set_cons_succ]
 refine tk 11 hHeld ?_
 refine wpAnyH_done (by kernel_rfl) ?_ _
 have FX_2 := η (FX_1.out.below RB2.out ν)
 have FP_2 := η (FP_1.out.below RB2.out ν)
 have HB2 := η (HB1.out.trans (RB2.out.mono HB1.out.size))
 clear hHeld HB1 FX_1 FP_1
 go_wp2_with fail
 go_ret
 exact ⟨rfl, HB2.out⟩
theorem Zja (A : Option Addr) (c : Nat) (f g : Nat → Int) (w : World) (hp : Pts w A 3 c f g) :
  Calls Tryz.prog 64 #[.slice A 3 c] w fun e w' => e = .returned (.bool (ZaU 0 f g 3)) ∧ Below w.heap.size w w' := by
 obtain ⟨b, off, rfl, hx⟩ := hp.t3.at_
 exact Zfx b off c _ _ _ _ _ _ hp.p3 w hp.cap hx
theorem Zjb (A : Option Addr) (c : Nat) (f g : Nat → Int) (x y : Int) (hx : IsI x) (hy : IsI y) (w : World) (hp : Pts w A 3 c f g) :
  Calls Tryz.prog 98 #[.slice A 3 c, .agg #[.int .i64 x, .int .i64 y]] w fun e w' => e = .returned (.int .i64 (locR 0 f g 3 x y)) ∧ Below w.heap.size w w' := by
 obtain ⟨b, off, rfl, hx3⟩ := hp.t3.at_
 exact ZeJ b off c _ _ _ _ _ _ x y (hp.p4 hx hy) w hp.cap hx3
set_option maxRecDepth 100000 in
theorem Zfy (d : Bool) (v : Int) (A : Option Addr) (n c : Nat) (hn : (n : Int) = szf v) (f g : Nat → Int) (x y : Int) (hx : IsI x) (hy : IsI y) (w : World) (hp : Pts w A n c f g) :
  Calls Tryz.prog 66 #[.agg #[.bool d, .int .i64 v, .slice A n c], .agg #[.int .i64 x, .int .i64 y]] w fun e w' => e = .returned (.int .i64 (locR v f g n x y)) ∧ Below w.heap.size w w' := by
 have HP := η hp
 have HX := η hx
 have HY := η hy
 have HN := η hn
 clear hp hx hy hn
 by_cases hv : v = 0
 ·subst hv
  obtain rfl : n = 3 := by have : szf 0 = 3 := rfl; have := HN.out; omega
  go_enter Tryz.func66, Tryz.ntmps66
  go_wp2_with fail
  have HB := η (show Below w.heap.size w ((w.alloc (.cells #[.bool d, .int .i64 0, .slice A 3 c] 48)).alloc (.cells #[.int .i64 x, .int .i64 y] 23)) from J8 (J8 J0))
  refine (Zjb A c f g x y HX.out HY.out _ ((HP.out.alloc _).alloc _)).mono ?_
  rintro e w2 ⟨rfl, B⟩
  have HB2 := η (HB.out.trans (B.mono HB.out.size)); clear B HB
  go_wp2_with fail
  go_ret
  exact ⟨rfl, HB2.out⟩
 ·go_enter Tryz.func66, Tryz.ntmps66
  go_wp2_with fail
  have HB := η (show Below w.heap.size w ((w.alloc (.cells #[.bool d, .int .i64 v, .slice A n c] 48)).alloc (.cells #[.int .i64 x, .int .i64 y] 23)) from J8 (J8 J0))
  have HV := η hv; clear hv
  refine (Zfa A n c f g x y HX.out HY.out _ ((HP.out.alloc _).alloc _)).mono ?_
  rintro e w2 ⟨rfl, B⟩
  have HB2 := η (HB.out.trans (B.mono HB.out.size)); clear B HB
  go_wp2_with fail
  go_ret
  exact ⟨by unfold locR; rw [if_neg HV.out]; rfl, HB2.out⟩
set_option maxRecDepth 100000 in
theorem ZcM (A : Option Addr) (n c : Nat) (d : Nat → Bool) (v : Nat → Int) (Q : Nat → Option Addr × Nat × Nat) (F G : Nat → Nat → Int) (w : World) (hr : Rgs w A n c d v Q) (hp : RgP w n Q F G) (ho : OkR n v Q) :
  Calls Tryz.prog 38 #[.slice A n c] w fun e w' => e = .returned (.bool (allB (vR v Q F G) n)) ∧ Below w.heap.size w w' := by
 have HR := η hr
 have HP := η hp
 have HO := η ho
 have hcp := hr.cap
 have hmx := hr.max
 have h1 := ho.pos
 have h2 := ho.le
 clear hr ho hp
 unfold maxLen at hmx
 obtain ⟨b, off, rfl, hbl, hc⟩ := HR.out.at_ (by omega)
 have HC := η hc; have HBL := η hbl; clear hc hbl
 go_enter Tryz.func38, Tryz.ntmps38
 go_wp2_with fail
 refine (Zak _ n c d v Q _ HR.out).mono ?_
 rintro e w2 ⟨⟨z, rfl, hz⟩, B⟩
 obtain rfl : z = 0 := hz.2 HO.out
 have HB2 := η B; clear B hz
 go_wp2_with fail
 go_loopw [3] (fun ir wr => ∃ k : Nat, k ≤ n ∧ ir = .int .i64 (k : Int) ∧ allB (vR v Q F G) k = true ∧ Below w.heap.size w wr) (fun i _ => n - (intOf i).toNat)
 case atStart => exact ⟨0, by omega, rfl, rfl, HB2.out⟩
 case round =>
  obtain ⟨k, hk, rfl, hs, hb⟩ := hrel
  have HB := η hb; have HS := η hs; clear hb hs
  by_cases hlt : k < n
  ·have p1 : wr.cell? ⟨b, off + k * 3 + 1, none⟩ = some (.int .i64 (v k)) := (HB.out.cell (p := ⟨b, off + k * 3 + 1, none⟩) HBL.out).trans (HC.out k hlt).2.1
   have p2 : wr.cell? ⟨b, off + k * 3 + 2, none⟩ = some (.slice (Q k).1 (Q k).2.1 (Q k).2.2) := (HB.out.cell (p := ⟨b, off + k * 3 + 2, none⟩) HBL.out).trans (HC.out k hlt).2.2
   have hms := η (show n - (intOf (.int .i64 ((k : Int) + 1))).toNat < n - (intOf (.int .i64 (k : Int))).toNat from by simp [intOf]; omega)
   have HQ := η (show (((Q k).2.1 : Nat) : Int) = szf (v k) from HO.out.num k hlt)
   have HF := η (show vR v Q F G k = false → allB (vR v Q F G) n = false from fun h => by
    cases ha : allB (vR v Q F G) n
    ·rfl
    ·exact absurd ((Zbc _ n).1 ha k hlt) (by rw [h]; simp))
   have HPQ := η ((HP.out.pts k hlt).below HB.out ν)
   have hrg := (HO.out.toOkK.range hlt).1
   by_cases hv : v k = 0
   ·have h3 : (Q k).2.1 = 3 := by have := HQ.out; rw [hv] at this; have e : szf 0 = 3 := rfl; omega
    have HPV := η (show Calls Tryz.prog 64 #[.slice (Q k).1 (Q k).2.1 (Q k).2.2] wr fun e w' => e = .returned (.bool (vR v Q F G k)) ∧ Below wr.heap.size wr w' from by
     have h := HPQ.out
     unfold vR; rw [hv]; revert h; rw [h3]; intro h; exact Zja _ _ _ _ _ h)
    have HV := η hv
    clear h3
    go_wp2_with fail
    refine HPV.out.mono ?_
    rintro e w3 ⟨rfl, B⟩
    have HB3 := η (HB.out.trans (B.mono HB.out.size)); clear B
    have p1' : w3.cell? ⟨b, off + k * 3 + 1, none⟩ = some (.int .i64 (v k)) := (HB3.out.cell (p := ⟨b, off + k * 3 + 1, none⟩) HBL.out).trans (HC.out k hlt).2.1
    cases hvk : vR v Q F G k
    ·have HFF := η (HF.out hvk)
     go_wp2_with fail
     go_ret
     exact ⟨congrArg (fun b => Ending.returned (Value.bool b)) HFF.out.symm, HB3.out⟩
    ·have HVK := η hvk
     go_wp2_with fail
     go_roundw
     case rel => exact ⟨k + 1, hlt, by go_num, by rw [allB, HS.out, HVK.out]; rfl, HB3.out⟩
     case measure => exact hms.out
   ·have HPV := η (show Calls Tryz.prog 65 #[.slice (Q k).1 (Q k).2.1 (Q k).2.2] wr fun e w' => e = .returned (.bool (vR v Q F G k)) ∧ Below wr.heap.size wr w' from by
     unfold vR ZaU; rw [if_neg hv]; exact ZfR _ _ _ _ _ _ HPQ.out)
    have HV := η hv
    have hv0 : 0 < v k := by omega
    go_wp2_with fail
    refine HPV.out.mono ?_
    rintro e w3 ⟨rfl, B⟩
    have HB3 := η (HB.out.trans (B.mono HB.out.size)); clear B
    cases hvk : vR v Q F G k
    ·have HFF := η (HF.out hvk)
     go_wp2_with fail
     go_ret
     exact ⟨congrArg (fun b => Ending.returned (Value.bool b)) HFF.out.symm, HB3.out⟩
    ·have HVK := η hvk
     go_wp2_with fail
     go_roundw
     case rel => exact ⟨k + 1, hlt, by go_num, by rw [allB, HS.out, HVK.out]; rfl, HB3.out⟩
     case measure => exact hms.out
  ·obtain rfl : k = n := by omega
   go_wp2_with fail
   go_ret
   exact ⟨congrArg (fun b => Ending.returned (Value.bool b)) HS.out.symm, HB.out⟩
set_option maxRecDepth 100000 in
theorem Zfz (A : Option Addr) (n c : Nat) (d : Nat → Bool) (v : Nat → Int) (Q : Nat → Option Addr × Nat × Nat) (F G : Nat → Nat → Int) (x y : Int) (hx : IsI x) (hy : IsI y) (w : World) (hr : Rgs w A n c d v Q) (hp : RgP w n Q F G) (ho : OkR n v Q) :
  Calls Tryz.prog 39 #[.slice A n c, .agg #[.int .i64 x, .int .i64 y]] w fun e w' => e = .returned (.bool (memR d (lR v Q F G x y) n)) ∧ Below w.heap.size w w' := by
 have HR := η hr
 have HP := η hp
 have HO := η ho
 have HX := η hx
 have HY := η hy
 have hcp := hr.cap
 have hmx := hr.max
 have h1 := ho.pos
 have h2 := ho.le
 clear hr ho hp hx hy
 unfold maxLen at hmx
 obtain ⟨b, off, rfl, hbl, hc⟩ := HR.out.at_ (by omega)
 have HC := η hc; have HBL := η hbl; clear hc hbl
 go_enter Tryz.func39, Tryz.ntmps39
 go_wp2_with fail
 have HB1 := η (show Below w.heap.size w (w.alloc (.cells #[.int .i64 x, .int .i64 y] 23)) from J8 J0)
 have FP := η (Bx.new w #[.int .i64 x, .int .i64 y] 23)
 generalize w.alloc (.cells #[.int .i64 x, .int .i64 y] 23) = w1 at *
 refine (Zak _ n c d v Q _ (HR.out.below HB1.out ν)).mono ?_
 rintro e w2 ⟨⟨z, rfl, hz⟩, B⟩
 obtain rfl : z = 0 := hz.2 HO.out
 have FP2 := η (FP.out.below B ν)
 have HB2 := η (HB1.out.trans (B.mono HB1.out.size)); clear B HB1 FP hz
 go_wp2_with fail
 go_loopw [5, 6] (fun mr ir wr => ∃ k : Nat, k ≤ n ∧ mr = .bool (alR d (lR v Q F G x y) k) ∧ ir = .int .i64 (k : Int) ∧ deR d (lR v Q F G x y) k = false ∧ Bx wr w.heap.size #[.int .i64 x, .int .i64 y] 23 ∧ Below w.heap.size w wr) (fun _ i _ => n - (intOf i).toNat)
 case atStart => exact ⟨0, by omega, rfl, rfl, rfl, FP2.out, HB2.out⟩
 case round =>
  obtain ⟨k, hk, rfl, rfl, hde, hpt, hb⟩ := hrel
  have HB1 := η hb; have FP := η hpt; have HDE := η hde; clear hb hpt hde
  by_cases hlt : k < n
  ·have FA := η (HC.out k hlt)
   have FQ := η ((HP.out.pts k hlt).below HB1.out ν)
   have HLB := η (show lR v Q F G x y k = decide (locR (v k) (F k) (G k) (Q k).2.1 x y ≥ 0) from rfl)
   have hms := η (show n - (intOf (.int .i64 ((k : Int) + 1))).toNat < n - (intOf (.int .i64 (k : Int))).toNat from by simp [intOf]; omega)
   have FC := η (show wr.cell? ⟨b, off + k * 3, none⟩ = some (.bool (d k)) ∧ wr.cell? ⟨b, off + k * 3 + 1, none⟩ = some (.int .i64 (v k)) ∧ wr.cell? ⟨b, off + k * 3 + 2, none⟩ = some (.slice (Q k).1 (Q k).2.1 (Q k).2.2) from
    ⟨(HB1.out.cell (p := ⟨b, off + k * 3, none⟩) HBL.out).trans (HC.out k hlt).1, (HB1.out.cell (p := ⟨b, off + k * 3 + 1, none⟩) HBL.out).trans (HC.out k hlt).2.1, (HB1.out.cell (p := ⟨b, off + k * 3 + 2, none⟩) HBL.out).trans (HC.out k hlt).2.2⟩)
   have HWB := η (show b < wr.heap.size from Nat.lt_of_lt_of_le HBL.out HB1.out.size)
   go_wp2_with fail
   refine (wpIn_wide (n := 0)).1 ?_
   refine wpIn_region_any (by kernel_rfl) ?_
   change wpAnyIn _ _ _ _ _ _ _ _ _ (World.drew _)
   have RB10 := η (Je wr)
   refine Jk WideF.wide (fun a b => Below a.heap.size a b) (fun _ => J0) (fun _ _ _ h k => J6 h k) [⟨0, 16, fun z_ _ => z_ = .slice (some ⟨b, off, none⟩) n c⟩, ⟨1, 17, fun z_ _ => z_ = .int .i64 (k : Int)⟩, ⟨2, 18, fun z_ _ => z_ = .pointer (some ⟨b, off + k * 3, none⟩)⟩, ⟨3, 19, fun z_ _ => z_ = .agg #[.bool (d k), .int .i64 (v k), .slice (Q k).1 (Q k).2.1 (Q k).2.2]⟩, ⟨4, 20, fun z_ _ => z_ = .agg #[.int .i64 x, .int .i64 y]⟩, ⟨5, 21, fun z_ _ => z_ = .int .i64 (locR (v k) (F k) (G k) (Q k).2.1 x y)⟩, ⟨6, 22, fun z_ _ => z_ = .bool (lR v Q F G x y k)⟩] 7 (by kernel_rfl) ?_ ?_ ?_
   ·refine ⟨?_, ?_, ?_, ?_, ?_, ?_, ?_, trivial⟩
    all_goals (intro x w w' hb h; first | exact h | (obtain ⟨b_, h1, h2⟩ := h; exact ⟨b_, h1, h2.below hb ν⟩))
   ·refine ⟨?_, ?_, ?_, ?_, ?_, ?_, ?_, trivial⟩
    ·intro a wz K hb ht hd hK
     have hbw := η (J6 RB10.out hb); clear hb
     have hx0 := (ht 0 rfl).trans rfl
     have es0 : a.tmps.getD 0 undef = _ := J7 hx0; clear hx0
     clear ht hd
     have HK := η hK; clear hK
     refine oP (fun K' HK' => ?_)
     go_simp
     exact HK'.out _ _ (HK.out _ _ J0 rfl)
    ·intro a wz K hb ht hd hK
     have hbw := η (J6 RB10.out hb); clear hb
     have hx6 := (ht 6 rfl).trans rfl
     have es6 : a.tmps.getD 6 undef = _ := J7 hx6; clear hx6
     clear ht hd
     have HK := η hK; clear hK
     refine oP (fun K' HK' => ?_)
     go_simp
     exact HK'.out _ _ (HK.out _ _ J0 rfl)
    ·intro a wz K hb ht hd hK
     have hbw := η (J6 RB10.out hb); clear hb
     obtain ⟨x16, hx16, hp16⟩ := hd 0 _ rfl (by kernel_rfl)
     obtain rfl := hp16
     have es16 : a.tmps.getD 16 undef = _ := J7 hx16; clear hx16
     obtain ⟨x17, hx17, hp17⟩ := hd 1 _ rfl (by kernel_rfl)
     obtain rfl := hp17
     have es17 : a.tmps.getD 17 undef = _ := J7 hx17; clear hx17
     clear ht hd
     have HK := η hK; clear hK
     refine oP (fun K' HK' => ?_)
     go_simp
     exact HK'.out _ _ (HK.out _ _ J0 rfl)
    ·intro a wz K hb ht hd hK
     have hbw := η (J6 RB10.out hb); clear hb
     obtain ⟨x18, hx18, hp18⟩ := hd 2 _ rfl (by kernel_rfl)
     obtain rfl := hp18
     have es18 : a.tmps.getD 18 undef = _ := J7 hx18; clear hx18
     clear ht hd
     have HK := η hK; clear hK
     have zc0 := (hbw.out.cell (p := ⟨b, off + k * 3, none⟩) HWB.out).trans FC.out.1; have zc1 := (hbw.out.cell (p := ⟨b, off + k * 3 + 1, none⟩) HWB.out).trans FC.out.2.1; have zc2 := (hbw.out.cell (p := ⟨b, off + k * 3 + 2, none⟩) HWB.out).trans FC.out.2.2
     refine oP (fun K' HK' => ?_)
     go_simp
     exact HK'.out _ _ (HK.out _ _ J0 rfl)
    ·intro a wz K hb ht hd hK
     have hbw := η (J6 RB10.out hb); clear hb
     have hx3 := (ht 3 rfl).trans rfl
     have es3 : a.tmps.getD 3 undef = _ := J7 hx3; clear hx3
     clear ht hd
     have zc0 := (FP.out.below hbw.out ν).cell 0 (v := .int .i64 x) rfl
     have zc1 := (FP.out.below hbw.out ν).cell 1 (v := .int .i64 y) rfl
     have HK := η hK; clear hK
     refine oP (fun K' HK' => ?_)
     go_simp
     exact HK'.out _ _ (HK.out _ _ J0 rfl)
    ·intro a wz K hb ht hd hK
     have hbw := η (J6 RB10.out hb); clear hb
     obtain ⟨x19, hx19, hp19⟩ := hd 3 _ rfl (by kernel_rfl)
     obtain rfl := hp19
     have es19 : a.tmps.getD 19 undef = _ := J7 hx19; clear hx19
     obtain ⟨x20, hx20, hp20⟩ := hd 4 _ rfl (by kernel_rfl)
     obtain rfl := hp20
     have es20 : a.tmps.getD 20 undef = _ := J7 hx20; clear hx20
     clear ht hd
     have HK := η hK; clear hK
     refine oP (fun K' HK' => ?_)
     go_simp
     refine (Zfy (d k) (v k) _ _ _ (HO.out.num k hlt) (F k) (G k) x y HX.out HY.out _ (FQ.out.below hbw.out ν)).mono ?_
     rintro e w1 ⟨rfl, B⟩
     go_wp2_with fail
     exact HK'.out _ _ (HK.out _ _ B rfl)
    ·intro a wz K hb ht hd hK
     have hbw := η (J6 RB10.out hb); clear hb
     obtain ⟨x21, hx21, hp21⟩ := hd 5 _ rfl (by kernel_rfl)
     obtain rfl := hp21
     have es21 : a.tmps.getD 21 undef = _ := J7 hx21; clear hx21
     clear ht hd
     have HK := η hK; clear hK
     refine oP (fun K' HK' => ?_)
     go_simp
     exact HK'.out _ _ (HK.out _ _ J0 (congrArg Value.bool HLB.out.symm))
   intro w11 X hb hv
   simp only [List.foldl_cons, List.foldl_nil, Act.put, List.setIfInBounds_toArray, List.set_cons_zero, List.set_cons_succ, List.toList_toArray, List.drop_succ_cons, List.drop_zero]
   obtain ⟨hv0, hv1, hv2, hv3, hv4, hv5, hv6, -⟩ := hv
   have hV0 : (fun z_ _ => z_ = .slice (some ⟨b, off, none⟩) n c) (X 16) w11 := hv0; clear hv0; have hv0 := hV0; clear hV0; generalize X 16 = X16 at *
   have hV1 : (fun z_ _ => z_ = .int .i64 (k : Int)) (X 17) w11 := hv1; clear hv1; have hv1 := hV1; clear hV1; generalize X 17 = X17 at *
   have hV2 : (fun z_ _ => z_ = .pointer (some ⟨b, off + k * 3, none⟩)) (X 18) w11 := hv2; clear hv2; have hv2 := hV2; clear hV2; generalize X 18 = X18 at *
   have hV3 : (fun z_ _ => z_ = .agg #[.bool (d k), .int .i64 (v k), .slice (Q k).1 (Q k).2.1 (Q k).2.2]) (X 19) w11 := hv3; clear hv3; have hv3 := hV3; clear hV3; generalize X 19 = X19 at *
   have hV4 : (fun z_ _ => z_ = .agg #[.int .i64 x, .int .i64 y]) (X 20) w11 := hv4; clear hv4; have hv4 := hV4; clear hV4; generalize X 20 = X20 at *
   have hV5 : (fun z_ _ => z_ = .int .i64 (locR (v k) (F k) (G k) (Q k).2.1 x y)) (X 21) w11 := hv5; clear hv5; have hv5 := hV5; clear hV5; generalize X 21 = X21 at *
   have hV6 : (fun z_ _ => z_ = .bool (lR v Q F G x y k)) (X 22) w11 := hv6; clear hv6; have hv6 := hV6; clear hV6; generalize X 22 = X22 at *
   obtain rfl := hv0
   obtain rfl := hv1
   obtain rfl := hv2
   obtain rfl := hv3
   obtain rfl := hv4
   obtain rfl := hv5
   obtain rfl := hv6
   have RC := η (J6 RB10.out hb); clear hb
   have FQ_11 := η (FQ.out.below RC.out ν)
   have FP_11 := η (FP.out.below RC.out ν)
   have HB11 := η (HB1.out.trans (RC.out.mono HB1.out.size))
   clear HB1 FQ FP RB10
   refine wpListIn_nil ?_
   have p0 : w11.cell? ⟨b, off + k * 3, none⟩ = some (.bool (d k)) := (HB11.out.cell (p := ⟨b, off + k * 3, none⟩) HBL.out).trans (HC.out k hlt).1
   cases hl : lR v Q F G x y k
   ·have HL := η hl; clear hl
    go_wp2_with fail
    go_roundw
    case rel => exact ⟨k + 1, hlt, by unfold alR; rw [anyB, HL.out]; simp, by go_num, by have := HDE.out; unfold deR at *; rw [anyB, HL.out, this]; rfl, FP_11.out, HB11.out⟩
    case measure => exact hms.out
   ·have HL := η hl; clear hl
    cases hd : d k
    ·rw [hd] at p0
     have HD := η hd; clear hd
     go_wp2_with fail
     go_roundw
     case rel => exact ⟨k + 1, hlt, by unfold alR; rw [anyB, HL.out, HD.out]; simp, by go_num, by have := HDE.out; unfold deR at *; rw [anyB, HL.out, HD.out, this]; rfl, FP_11.out, HB11.out⟩
     case measure => exact hms.out
    ·rw [hd] at p0
     have HD := η hd; clear hd
     have HM := η (show memR d (lR v Q F G x y) n = false from by have := (Zf8 (fun i => lR v Q F G x y i && d i) n).2 ⟨k, hlt, by rw [HL.out, HD.out]; rfl⟩; unfold memR deR; rw [this]; simp)
     go_wp2_with fail
     go_ret
     exact ⟨congrArg (fun b => Ending.returned (Value.bool b)) HM.out.symm, HB11.out⟩
  ·obtain rfl : k = n := by omega
   have HM := η (show memR d (lR v Q F G x y) k = alR d (lR v Q F G x y) k from by unfold memR; rw [HDE.out]; simp)
   go_wp2_with fail
   go_ret
   exact ⟨congrArg (fun b => Ending.returned (Value.bool b)) HM.out.symm, HB1.out⟩
end Go.Proofs.YtjdiilkljgljkaaGreatDoor
namespace Go.Proofs.YtjdiilkljgljkaaGreatDoor
set_option linter.unusedVariables false
set_option linter.unusedSimpArgs false
open Go.Shelf
def ZhF : Go.Shelf.Ren := ⟨fun | 35 => 24 | n => n, fun | 22 => 30 | 23 => 63 | 3 => 3 | 4 => 4 | 0 => 0 | n => n, fun | n => n⟩
theorem Zk8 : Go.Proofs.SlLaysE0.n35 Tryz.prog ZhF := {
 mixed := by kernel_rfl
 f35 := ⟨Tryz.f24.name, by decide, Tryz.func24.trans (congrArg some (by kernel_rfl))⟩
 t0 := Tryz.underlying0
 a0 := Tryz.isAgg0
 z0 := Tryz.sizeOf0
 v0 := Tryz.zeroValue0
 t3 := Tryz.underlying3
 a3 := Tryz.isAgg3
 z3 := Tryz.sizeOf3
 v3 := Tryz.zeroValue3
 t4 := Tryz.underlying4
 a4 := Tryz.isAgg4
 z4 := Tryz.sizeOf4
 v4 := Tryz.zeroValue4
 t22 := Tryz.underlying30
 a22 := Tryz.isAgg30
 z22 := Tryz.sizeOf30
 v22 := Tryz.zeroValue30 }
end Go.Proofs.YtjdiilkljgljkaaGreatDoor
