/- Contracts of the reference of layer 5: differences, vectors of numbers and their products. -/
import Derived.Test.YtfjanlfbnliokaaRef3d
import Derived.Test.YtfjanlfbnliokaaRef3e
import Derived.Test.YtfjanlfbnliokaaBoxN
namespace Go.Proofs.Ytfjanlfbnliokaa
set_option linter.unusedVariables false
set_option linter.unusedSimpArgs false
open Go.RowKit Wd

set_option maxHeartbeats 1000000 in
theorem ref5_Coordinate (a b : Int) (ha : IsI a) (hb : IsI b) (w : World) :
    Calls Try.prog 14 #[.int .i64 a, .int .i64 b] w fun e w' => (∃ A k c, e = .returned (.agg #[.int .i64 (sg (a - b)), .slice A k c]) ∧ k ≤ 5 ∧ Nm w' A k c (a - b)) ∧ Below w.heap.size w w' := by
  have HB0 := Lib.hid (Below.refl w.heap.size w)
  go_enter Try.func14, Try.ntmps14
  go_wp2_with fail
  have B : Below w.heap.size w (w.alloc (.cells #[.int .i64 0, .slice none 0 0] 30)) := (HB0.out.alloc HB0.out.size _)
  have C : Below w.heap.size w (w.alloc (.cells #[.int .i64 0, .slice none 0 0] 30)) := ((Below.refl w.heap.size w).alloc (Nat.le_refl _) _)
  have X0 : Bx (w.alloc (.cells #[.int .i64 0, .slice none 0 0] 30)) (w.heap.size) #[.int .i64 0, .slice none 0 0] 30 := by simpa using (Bx.new w #[.int .i64 0, .slice none 0 0] 30)
  have HB1 := Lib.hid B
  have FR_1 := Lib.hid X0
  clear B C X0 HB0 
  generalize (w.alloc (.cells #[.int .i64 0, .slice none 0 0] 30)) = w1 at *
  skip
  refine (ref3_Int a ha _).mono ?_
  rintro e w2 ⟨⟨A1, k1, c1, rfl, b1, N1⟩, B⟩
  have HB2 := Lib.hid (HB1.out.trans (B.mono HB1.out.size))
  have FR_2 := Lib.hid (FR_1.out.below B (Nat.le_refl _))
  have FA_2 := Lib.hid N1
  clear B N1 HB1 FR_1
  go_wp2_with fail
  refine (ref3_Int b hb _).mono ?_
  rintro e w3 ⟨⟨A2, k2, c2, rfl, b2, N2⟩, B⟩
  have HB3 := Lib.hid (HB2.out.trans (B.mono HB2.out.size))
  have FR_3 := Lib.hid (FR_2.out.below B (Nat.le_refl _))
  have FA_3 := Lib.hid (FA_2.out.below B (Nat.le_refl _))
  have FB_3 := Lib.hid N2
  clear B N2 HB2 FR_2 FA_2
  go_wp2_with fail
  refine (ref3_Sub _ _ _ _ _ _ _ _ _ FA_3.out FB_3.out (by omega) (by omega)).mono ?_
  rintro e w4 ⟨⟨A3, k3, c3, rfl, b3, N3⟩, B⟩
  have HB4 := Lib.hid (HB3.out.trans (B.mono HB3.out.size))
  have FR_4 := Lib.hid (FR_3.out.below B (Nat.le_refl _))
  have FA_4 := Lib.hid (FA_3.out.below B (Nat.le_refl _))
  have FB_4 := Lib.hid (FB_3.out.below B (Nat.le_refl _))
  have FC_4 := Lib.hid N3
  clear B N3 HB3 FR_3 FA_3 FB_3
  have q0 := FR_4.out.cell 0 (v := .int .i64 0) rfl; have q1 := FR_4.out.cell 1 (v := .slice none 0 0) rfl; have z0 := FR_4.out.free 0; have z1 := FR_4.out.free 1
  go_wp2_with fail
  have r0 := FR_4.out
  have r1 := r0.set 0 (.int .i64 (sg (a - b)))
  refine bodyPost_ret (v := .agg #[.int .i64 (sg (a - b)), .slice A3 k3 c3]) (by simp [results, Try.results14, go_sem, q0, q1]) rfl ⟨⟨A3, k3, c3, rfl, by omega, ((FC_4.out.setB r0 (by decide)).setB r1 (by decide))⟩, ?_⟩
  exact ((HB4.out.setCell (p := ⟨w.heap.size, 0, none⟩) (by simp <;> omega) _).setCell (p := ⟨w.heap.size, 1, none⟩) (by simp <;> omega) _)

set_option maxHeartbeats 1000000 in
theorem ref5_Between (ax ay bx b_ : Int) (h1 : IsI ax) (h2 : IsI ay) (h3 : IsI bx) (h4 : IsI b_) (w : World) :
    Calls Try.prog 10 #[.agg #[.int .i64 ax, .int .i64 ay], .agg #[.int .i64 bx, .int .i64 b_]] w fun e w' => (∃ A k c A' k' c', e = .returned (.agg #[.int .i64 (sg (bx - ax)), .slice A k c, .int .i64 (sg (b_ - ay)), .slice A' k' c']) ∧ (k ≤ 5 ∧ k' ≤ 5) ∧ Nm w' A k c (bx - ax) ∧ Nm w' A' k' c' (b_ - ay)) ∧ Below w.heap.size w w' := by
  have HB0 := Lib.hid (Below.refl w.heap.size w)
  go_enter Try.func10, Try.ntmps10
  go_wp2_with fail
  have B : Below w.heap.size w (((w.alloc (.cells #[.int .i64 ax, .int .i64 ay] 23)).alloc (.cells #[.int .i64 bx, .int .i64 b_] 23)).alloc (.cells #[.int .i64 0, .slice none 0 0, .int .i64 0, .slice none 0 0] 32)) := (((HB0.out.alloc HB0.out.size _).alloc (HB0.out.alloc HB0.out.size _).size _).alloc ((HB0.out.alloc HB0.out.size _).alloc (HB0.out.alloc HB0.out.size _).size _).size _)
  have C : Below w.heap.size w (((w.alloc (.cells #[.int .i64 ax, .int .i64 ay] 23)).alloc (.cells #[.int .i64 bx, .int .i64 b_] 23)).alloc (.cells #[.int .i64 0, .slice none 0 0, .int .i64 0, .slice none 0 0] 32)) := ((((Below.refl w.heap.size w).alloc (Nat.le_refl _) _).alloc (by simp; try omega) _).alloc (by simp; try omega) _)
  have X0 : Bx (((w.alloc (.cells #[.int .i64 ax, .int .i64 ay] 23)).alloc (.cells #[.int .i64 bx, .int .i64 b_] 23)).alloc (.cells #[.int .i64 0, .slice none 0 0, .int .i64 0, .slice none 0 0] 32)) (w.heap.size) #[.int .i64 ax, .int .i64 ay] 23 := by simpa using (((Bx.new w #[.int .i64 ax, .int .i64 ay] 23).alloc _).alloc _)
  have X1 : Bx (((w.alloc (.cells #[.int .i64 ax, .int .i64 ay] 23)).alloc (.cells #[.int .i64 bx, .int .i64 b_] 23)).alloc (.cells #[.int .i64 0, .slice none 0 0, .int .i64 0, .slice none 0 0] 32)) (w.heap.size + 1) #[.int .i64 bx, .int .i64 b_] 23 := by simpa using ((Bx.new (w.alloc (.cells #[.int .i64 ax, .int .i64 ay] 23)) #[.int .i64 bx, .int .i64 b_] 23).alloc _)
  have X2 : Bx (((w.alloc (.cells #[.int .i64 ax, .int .i64 ay] 23)).alloc (.cells #[.int .i64 bx, .int .i64 b_] 23)).alloc (.cells #[.int .i64 0, .slice none 0 0, .int .i64 0, .slice none 0 0] 32)) (w.heap.size + 1 + 1) #[.int .i64 0, .slice none 0 0, .int .i64 0, .slice none 0 0] 32 := by simpa using (Bx.new ((w.alloc (.cells #[.int .i64 ax, .int .i64 ay] 23)).alloc (.cells #[.int .i64 bx, .int .i64 b_] 23)) #[.int .i64 0, .slice none 0 0, .int .i64 0, .slice none 0 0] 32)
  have HB1 := Lib.hid B
  have FP_1 := Lib.hid X0
  have FQ_1 := Lib.hid X1
  have FR_1 := Lib.hid X2
  clear B C X0 X1 X2 HB0 
  generalize (((w.alloc (.cells #[.int .i64 ax, .int .i64 ay] 23)).alloc (.cells #[.int .i64 bx, .int .i64 b_] 23)).alloc (.cells #[.int .i64 0, .slice none 0 0, .int .i64 0, .slice none 0 0] 32)) = w1 at *
  have RB1 := Lib.hid (below_drew0 w1)
  have QS1 := Lib.hid (show w1.cell? ⟨w.heap.size, 0, none⟩ = some (.int .i64 ax) ∧ w1.cell? ⟨w.heap.size, 1, none⟩ = some (.int .i64 ay) ∧ w1.cell? ⟨w.heap.size + 1, 0, none⟩ = some (.int .i64 bx) ∧ w1.cell? ⟨w.heap.size + 1, 1, none⟩ = some (.int .i64 b_) from ⟨FP_1.out.cell 0 (v := .int .i64 ax) rfl, FP_1.out.cell 1 (v := .int .i64 ay) rfl, FQ_1.out.cell 0 (v := .int .i64 bx) rfl, FQ_1.out.cell 1 (v := .int .i64 b_) rfl⟩)
  have QF1 := Lib.hid (show ∀ w', Below w1.heap.size w1 w' → w'.cell? ⟨w.heap.size, 0, none⟩ = some (.int .i64 ax) ∧ w'.cell? ⟨w.heap.size, 1, none⟩ = some (.int .i64 ay) ∧ w'.cell? ⟨w.heap.size + 1, 0, none⟩ = some (.int .i64 bx) ∧ w'.cell? ⟨w.heap.size + 1, 1, none⟩ = some (.int .i64 b_) from fun w' hb => ⟨(FP_1.out.below hb (Nat.le_refl _)).cell 0 (v := .int .i64 ax) rfl, (FP_1.out.below hb (Nat.le_refl _)).cell 1 (v := .int .i64 ay) rfl, (FQ_1.out.below hb (Nat.le_refl _)).cell 0 (v := .int .i64 bx) rfl, (FQ_1.out.below hb (Nat.le_refl _)).cell 1 (v := .int .i64 b_) rfl⟩)
  go_region_held3 (fun w' => w'.cell? ⟨w.heap.size, 0, none⟩ = some (.int .i64 ax) ∧ w'.cell? ⟨w.heap.size, 1, none⟩ = some (.int .i64 ay) ∧ w'.cell? ⟨w.heap.size + 1, 0, none⟩ = some (.int .i64 bx) ∧ w'.cell? ⟨w.heap.size + 1, 1, none⟩ = some (.int .i64 b_)) (first | with_reducible exact QF1.out _ RB3.out | with_reducible exact QF1.out _ RB2.out | with_reducible exact QS1.out | with_reducible exact QF1.out _ RB1.out | with_reducible exact ⟨keep_set (keep_set (keep_set (keep_set ((QF1.out _ RB3.out).1) (by simp <;> omega)) (by simp <;> omega)) (by simp <;> omega)) (by simp <;> omega), keep_set (keep_set (keep_set (keep_set ((QF1.out _ RB3.out).2.1) (by simp <;> omega)) (by simp <;> omega)) (by simp <;> omega)) (by simp <;> omega), keep_set (keep_set (keep_set (keep_set ((QF1.out _ RB3.out).2.2.1) (by simp <;> omega)) (by simp <;> omega)) (by simp <;> omega)) (by simp <;> omega), keep_set (keep_set (keep_set (keep_set ((QF1.out _ RB3.out).2.2.2) (by simp <;> omega)) (by simp <;> omega)) (by simp <;> omega)) (by simp <;> omega)⟩) (first
      | (go_at_call 14; have := RB2; clear this; refine (ref5_Coordinate b_ ay h4 h2 _).mono ?_; rintro e w3 ⟨⟨A2, k2, c2, rfl, b2, N2⟩, B⟩; have RB3 := Lib.hid (RB2.out.trans (B.mono RB2.out.size)); have RV1_3 := Lib.hid (RV1_2.out.below B (Nat.le_refl _)); have RV2_3 := Lib.hid N2; clear B N2; have q0 := (FR_1.out.below RB3.out (Nat.le_refl _)).cell 0 (v := .int .i64 0) rfl; have q1 := (FR_1.out.below RB3.out (Nat.le_refl _)).cell 1 (v := .slice none 0 0) rfl; have q2 := (FR_1.out.below RB3.out (Nat.le_refl _)).cell 2 (v := .int .i64 0) rfl; have q3 := (FR_1.out.below RB3.out (Nat.le_refl _)).cell 3 (v := .slice none 0 0) rfl; have z0 := (FR_1.out.below RB3.out (Nat.le_refl _)).free 0; have z1 := (FR_1.out.below RB3.out (Nat.le_refl _)).free 1; have z2 := (FR_1.out.below RB3.out (Nat.le_refl _)).free 2; have z3 := (FR_1.out.below RB3.out (Nat.le_refl _)).free 3)
      | (go_at_call 14; have := RB1; clear this; refine (ref5_Coordinate bx ax h3 h1 _).mono ?_; rintro e w2 ⟨⟨A1, k1, c1, rfl, b1, N1⟩, B⟩; have RB2 := Lib.hid (RB1.out.trans (B.mono RB1.out.size)); have RV1_2 := Lib.hid N1; clear B N1))
  have FP_3 := Lib.hid (FP_1.out.below RB3.out (Nat.le_refl _))
  have FQ_3 := Lib.hid (FQ_1.out.below RB3.out (Nat.le_refl _))
  have FR_3 := Lib.hid (FR_1.out.below RB3.out (Nat.le_refl _))
  have HB3 := Lib.hid (HB1.out.trans (RB3.out.mono HB1.out.size))
  clear HB1 FP_1 FQ_1 FR_1
  go_wp2_with fail
  have r0 := FR_3.out
  have r1 := r0.set 0 (.int .i64 (sg (bx - ax)))
  have r2 := r1.set 1 (.slice A1 k1 c1)
  have r3 := r2.set 2 (.int .i64 (sg (b_ - ay)))
  refine bodyPost_ret (v := .agg #[.int .i64 (sg (bx - ax)), .slice A1 k1 c1, .int .i64 (sg (b_ - ay)), .slice A2 k2 c2]) (by simp [results, Try.results10, go_sem, q0, q1, q2, q3]) rfl ⟨⟨A1, k1, c1, A2, k2, c2, rfl, ⟨b1, b2⟩, ((((RV1_3.out.setB r0 (by decide)).setB r1 (by decide)).setB r2 (by decide)).setB r3 (by decide)), ((((RV2_3.out.setB r0 (by decide)).setB r1 (by decide)).setB r2 (by decide)).setB r3 (by decide))⟩, ?_⟩
  exact ((((HB3.out.setCell (p := ⟨w.heap.size + 1 + 1, 0, none⟩) (by simp <;> omega) _).setCell (p := ⟨w.heap.size + 1 + 1, 1, none⟩) (by simp <;> omega) _).setCell (p := ⟨w.heap.size + 1 + 1, 2, none⟩) (by simp <;> omega) _).setCell (p := ⟨w.heap.size + 1 + 1, 3, none⟩) (by simp <;> omega) _)

set_option maxHeartbeats 1000000 in
theorem ref5_Cross (A1 B1 A2 B2 : Option Addr) (k1 l1 k2 l2 c1 d1 c2 d2 : Nat) (x1 y1 x2 y2 : Int) (w : World) (a1 : Nm w A1 k1 c1 x1) (a2 : Nm w B1 l1 d1 y1) (a3 : Nm w A2 k2 c2 x2) (a4 : Nm w B2 l2 d2 y2) (K : Nat) (hK : K ≤ 10000) (h1 : k1 ≤ K) (h2 : l1 ≤ K) (h3 : k2 ≤ K) (h4 : l2 ≤ K) :
    Calls Try.prog 16 #[.agg #[.int .i64 (sg (x1)), .slice A1 k1 c1, .int .i64 (sg (y1)), .slice B1 l1 d1], .agg #[.int .i64 (sg (x2)), .slice A2 k2 c2, .int .i64 (sg (y2)), .slice B2 l2 d2]] w fun e w' => (∃ A k c, e = .returned (.agg #[.int .i64 (sg (x1 * y2 - y1 * x2)), .slice A k c]) ∧ k ≤ 2 * K + 1 ∧ Nm w' A k c (x1 * y2 - y1 * x2)) ∧ Below w.heap.size w w' := by
  have HB0 := Lib.hid (Below.refl w.heap.size w)
  have FX1 := Lib.hid a1
  have FY1 := Lib.hid a2
  have FX2 := Lib.hid a3
  have FY2 := Lib.hid a4
  clear a1 a2 a3 a4
  go_enter Try.func16, Try.ntmps16
  go_wp2_with fail
  have B : Below w.heap.size w (((w.alloc (.cells #[.int .i64 (sg (x1)), .slice A1 k1 c1, .int .i64 (sg (y1)), .slice B1 l1 d1] 32)).alloc (.cells #[.int .i64 (sg (x2)), .slice A2 k2 c2, .int .i64 (sg (y2)), .slice B2 l2 d2] 32)).alloc (.cells #[.int .i64 0, .slice none 0 0] 30)) := (((HB0.out.alloc HB0.out.size _).alloc (HB0.out.alloc HB0.out.size _).size _).alloc ((HB0.out.alloc HB0.out.size _).alloc (HB0.out.alloc HB0.out.size _).size _).size _)
  have C : Below w.heap.size w (((w.alloc (.cells #[.int .i64 (sg (x1)), .slice A1 k1 c1, .int .i64 (sg (y1)), .slice B1 l1 d1] 32)).alloc (.cells #[.int .i64 (sg (x2)), .slice A2 k2 c2, .int .i64 (sg (y2)), .slice B2 l2 d2] 32)).alloc (.cells #[.int .i64 0, .slice none 0 0] 30)) := ((((Below.refl w.heap.size w).alloc (Nat.le_refl _) _).alloc (by simp; try omega) _).alloc (by simp; try omega) _)
  have X0 : Bx (((w.alloc (.cells #[.int .i64 (sg (x1)), .slice A1 k1 c1, .int .i64 (sg (y1)), .slice B1 l1 d1] 32)).alloc (.cells #[.int .i64 (sg (x2)), .slice A2 k2 c2, .int .i64 (sg (y2)), .slice B2 l2 d2] 32)).alloc (.cells #[.int .i64 0, .slice none 0 0] 30)) (w.heap.size) #[.int .i64 (sg (x1)), .slice A1 k1 c1, .int .i64 (sg (y1)), .slice B1 l1 d1] 32 := by simpa using (((Bx.new w #[.int .i64 (sg (x1)), .slice A1 k1 c1, .int .i64 (sg (y1)), .slice B1 l1 d1] 32).alloc _).alloc _)
  have X1 : Bx (((w.alloc (.cells #[.int .i64 (sg (x1)), .slice A1 k1 c1, .int .i64 (sg (y1)), .slice B1 l1 d1] 32)).alloc (.cells #[.int .i64 (sg (x2)), .slice A2 k2 c2, .int .i64 (sg (y2)), .slice B2 l2 d2] 32)).alloc (.cells #[.int .i64 0, .slice none 0 0] 30)) (w.heap.size + 1) #[.int .i64 (sg (x2)), .slice A2 k2 c2, .int .i64 (sg (y2)), .slice B2 l2 d2] 32 := by simpa using ((Bx.new (w.alloc (.cells #[.int .i64 (sg (x1)), .slice A1 k1 c1, .int .i64 (sg (y1)), .slice B1 l1 d1] 32)) #[.int .i64 (sg (x2)), .slice A2 k2 c2, .int .i64 (sg (y2)), .slice B2 l2 d2] 32).alloc _)
  have X2 : Bx (((w.alloc (.cells #[.int .i64 (sg (x1)), .slice A1 k1 c1, .int .i64 (sg (y1)), .slice B1 l1 d1] 32)).alloc (.cells #[.int .i64 (sg (x2)), .slice A2 k2 c2, .int .i64 (sg (y2)), .slice B2 l2 d2] 32)).alloc (.cells #[.int .i64 0, .slice none 0 0] 30)) (w.heap.size + 1 + 1) #[.int .i64 0, .slice none 0 0] 30 := by simpa using (Bx.new ((w.alloc (.cells #[.int .i64 (sg (x1)), .slice A1 k1 c1, .int .i64 (sg (y1)), .slice B1 l1 d1] 32)).alloc (.cells #[.int .i64 (sg (x2)), .slice A2 k2 c2, .int .i64 (sg (y2)), .slice B2 l2 d2] 32)) #[.int .i64 0, .slice none 0 0] 30)
  have FX1_1 := Lib.hid (FX1.out.below C (Nat.le_refl _))
  have FY1_1 := Lib.hid (FY1.out.below C (Nat.le_refl _))
  have FX2_1 := Lib.hid (FX2.out.below C (Nat.le_refl _))
  have FY2_1 := Lib.hid (FY2.out.below C (Nat.le_refl _))
  have HB1 := Lib.hid B
  have FU_1 := Lib.hid X0
  have FV_1 := Lib.hid X1
  have FR_1 := Lib.hid X2
  clear B C X0 X1 X2 HB0 FX1 FY1 FX2 FY2
  generalize (((w.alloc (.cells #[.int .i64 (sg (x1)), .slice A1 k1 c1, .int .i64 (sg (y1)), .slice B1 l1 d1] 32)).alloc (.cells #[.int .i64 (sg (x2)), .slice A2 k2 c2, .int .i64 (sg (y2)), .slice B2 l2 d2] 32)).alloc (.cells #[.int .i64 0, .slice none 0 0] 30)) = w1 at *
  have RB1 := Lib.hid (below_drew0 w1)
  have QS1 := Lib.hid (show w1.cell? ⟨w.heap.size, 0, none⟩ = some (.int .i64 (sg x1)) ∧ w1.cell? ⟨w.heap.size, 1, none⟩ = some (.slice A1 k1 c1) ∧ w1.cell? ⟨w.heap.size, 2, none⟩ = some (.int .i64 (sg y1)) ∧ w1.cell? ⟨w.heap.size, 3, none⟩ = some (.slice B1 l1 d1) ∧ w1.cell? ⟨w.heap.size + 1, 0, none⟩ = some (.int .i64 (sg x2)) ∧ w1.cell? ⟨w.heap.size + 1, 1, none⟩ = some (.slice A2 k2 c2) ∧ w1.cell? ⟨w.heap.size + 1, 2, none⟩ = some (.int .i64 (sg y2)) ∧ w1.cell? ⟨w.heap.size + 1, 3, none⟩ = some (.slice B2 l2 d2) from ⟨FU_1.out.cell 0 (v := .int .i64 (sg x1)) rfl, FU_1.out.cell 1 (v := .slice A1 k1 c1) rfl, FU_1.out.cell 2 (v := .int .i64 (sg y1)) rfl, FU_1.out.cell 3 (v := .slice B1 l1 d1) rfl, FV_1.out.cell 0 (v := .int .i64 (sg x2)) rfl, FV_1.out.cell 1 (v := .slice A2 k2 c2) rfl, FV_1.out.cell 2 (v := .int .i64 (sg y2)) rfl, FV_1.out.cell 3 (v := .slice B2 l2 d2) rfl⟩)
  have QF1 := Lib.hid (show ∀ w', Below w1.heap.size w1 w' → w'.cell? ⟨w.heap.size, 0, none⟩ = some (.int .i64 (sg x1)) ∧ w'.cell? ⟨w.heap.size, 1, none⟩ = some (.slice A1 k1 c1) ∧ w'.cell? ⟨w.heap.size, 2, none⟩ = some (.int .i64 (sg y1)) ∧ w'.cell? ⟨w.heap.size, 3, none⟩ = some (.slice B1 l1 d1) ∧ w'.cell? ⟨w.heap.size + 1, 0, none⟩ = some (.int .i64 (sg x2)) ∧ w'.cell? ⟨w.heap.size + 1, 1, none⟩ = some (.slice A2 k2 c2) ∧ w'.cell? ⟨w.heap.size + 1, 2, none⟩ = some (.int .i64 (sg y2)) ∧ w'.cell? ⟨w.heap.size + 1, 3, none⟩ = some (.slice B2 l2 d2) from fun w' hb => ⟨(FU_1.out.below hb (Nat.le_refl _)).cell 0 (v := .int .i64 (sg x1)) rfl, (FU_1.out.below hb (Nat.le_refl _)).cell 1 (v := .slice A1 k1 c1) rfl, (FU_1.out.below hb (Nat.le_refl _)).cell 2 (v := .int .i64 (sg y1)) rfl, (FU_1.out.below hb (Nat.le_refl _)).cell 3 (v := .slice B1 l1 d1) rfl, (FV_1.out.below hb (Nat.le_refl _)).cell 0 (v := .int .i64 (sg x2)) rfl, (FV_1.out.below hb (Nat.le_refl _)).cell 1 (v := .slice A2 k2 c2) rfl, (FV_1.out.below hb (Nat.le_refl _)).cell 2 (v := .int .i64 (sg y2)) rfl, (FV_1.out.below hb (Nat.le_refl _)).cell 3 (v := .slice B2 l2 d2) rfl⟩)
  go_region_held3 (fun w' => w'.cell? ⟨w.heap.size, 0, none⟩ = some (.int .i64 (sg x1)) ∧ w'.cell? ⟨w.heap.size, 1, none⟩ = some (.slice A1 k1 c1) ∧ w'.cell? ⟨w.heap.size, 2, none⟩ = some (.int .i64 (sg y1)) ∧ w'.cell? ⟨w.heap.size, 3, none⟩ = some (.slice B1 l1 d1) ∧ w'.cell? ⟨w.heap.size + 1, 0, none⟩ = some (.int .i64 (sg x2)) ∧ w'.cell? ⟨w.heap.size + 1, 1, none⟩ = some (.slice A2 k2 c2) ∧ w'.cell? ⟨w.heap.size + 1, 2, none⟩ = some (.int .i64 (sg y2)) ∧ w'.cell? ⟨w.heap.size + 1, 3, none⟩ = some (.slice B2 l2 d2)) (first | with_reducible exact QF1.out _ RB4.out | with_reducible exact QF1.out _ RB3.out | with_reducible exact QF1.out _ RB2.out | with_reducible exact QS1.out | with_reducible exact QF1.out _ RB1.out | with_reducible exact ⟨keep_set (keep_set ((QF1.out _ RB4.out).1) (by simp <;> omega)) (by simp <;> omega), keep_set (keep_set ((QF1.out _ RB4.out).2.1) (by simp <;> omega)) (by simp <;> omega), keep_set (keep_set ((QF1.out _ RB4.out).2.2.1) (by simp <;> omega)) (by simp <;> omega), keep_set (keep_set ((QF1.out _ RB4.out).2.2.2.1) (by simp <;> omega)) (by simp <;> omega), keep_set (keep_set ((QF1.out _ RB4.out).2.2.2.2.1) (by simp <;> omega)) (by simp <;> omega), keep_set (keep_set ((QF1.out _ RB4.out).2.2.2.2.2.1) (by simp <;> omega)) (by simp <;> omega), keep_set (keep_set ((QF1.out _ RB4.out).2.2.2.2.2.2.1) (by simp <;> omega)) (by simp <;> omega), keep_set (keep_set ((QF1.out _ RB4.out).2.2.2.2.2.2.2) (by simp <;> omega)) (by simp <;> omega)⟩) (first
      | (go_at_call 28; have := RB3; clear this; refine (ref3_Sub P0 P1 p0 q0 p1 q1 _ _ _ RM0_3.out RM1_3.out (by omega) (by omega)).mono ?_; rintro e w4 ⟨⟨P2, p2, q2, rfl, b2, N2⟩, B⟩; have RB4 := Lib.hid (RB3.out.trans (B.mono RB3.out.size)); have RM0_4 := Lib.hid (RM0_3.out.below B (Nat.le_refl _)); have RM1_4 := Lib.hid (RM1_3.out.below B (Nat.le_refl _)); have RM2_4 := Lib.hid N2; clear B N2; have q0 := (FR_1.out.below RB4.out (Nat.le_refl _)).cell 0 (v := .int .i64 0) rfl; have q1 := (FR_1.out.below RB4.out (Nat.le_refl _)).cell 1 (v := .slice none 0 0) rfl; have z0 := (FR_1.out.below RB4.out (Nat.le_refl _)).free 0; have z1 := (FR_1.out.below RB4.out (Nat.le_refl _)).free 1)
      | (go_at_call 27; have := RB2; clear this; refine (ref3_Mul B1 A2 l1 d1 k2 c2 y1 x2 _ (FY1_1.out.below RB2.out (Nat.le_refl _)) (FX2_1.out.below RB2.out (Nat.le_refl _)) (by omega) (by omega)).mono ?_; rintro e w3 ⟨⟨P1, p1, q1, rfl, b1, N1⟩, B⟩; have RB3 := Lib.hid (RB2.out.trans (B.mono RB2.out.size)); have RM0_3 := Lib.hid (RM0_2.out.below B (Nat.le_refl _)); have RM1_3 := Lib.hid N1; clear B N1)
      | (go_at_call 27; have := RB1; clear this; refine (ref3_Mul A1 B2 k1 c1 l2 d2 x1 y2 _ (FX1_1.out.below RB1.out (Nat.le_refl _)) (FY2_1.out.below RB1.out (Nat.le_refl _)) (by omega) (by omega)).mono ?_; rintro e w2 ⟨⟨P0, p0, q0, rfl, b0, N0⟩, B⟩; have RB2 := Lib.hid (RB1.out.trans (B.mono RB1.out.size)); have RM0_2 := Lib.hid N0; clear B N0))
  have FX1_4 := Lib.hid (FX1_1.out.below RB4.out (Nat.le_refl _))
  have FY1_4 := Lib.hid (FY1_1.out.below RB4.out (Nat.le_refl _))
  have FX2_4 := Lib.hid (FX2_1.out.below RB4.out (Nat.le_refl _))
  have FY2_4 := Lib.hid (FY2_1.out.below RB4.out (Nat.le_refl _))
  have FU_4 := Lib.hid (FU_1.out.below RB4.out (Nat.le_refl _))
  have FV_4 := Lib.hid (FV_1.out.below RB4.out (Nat.le_refl _))
  have FR_4 := Lib.hid (FR_1.out.below RB4.out (Nat.le_refl _))
  have HB4 := Lib.hid (HB1.out.trans (RB4.out.mono HB1.out.size))
  clear HB1 FX1_1 FY1_1 FX2_1 FY2_1 FU_1 FV_1 FR_1
  go_wp2_with fail
  have r0 := FR_4.out
  have r1 := r0.set 0 (.int .i64 (sg (x1 * y2 - y1 * x2)))
  refine bodyPost_ret (v := .agg #[.int .i64 (sg (x1 * y2 - y1 * x2)), .slice P2 p2 q2]) (by simp [results, Try.results16, go_sem, q0, q1]) rfl ⟨⟨P2, p2, q2, rfl, by omega, ((RM2_4.out.setB r0 (by decide)).setB r1 (by decide))⟩, ?_⟩
  exact ((HB4.out.setCell (p := ⟨w.heap.size + 1 + 1, 0, none⟩) (by simp <;> omega) _).setCell (p := ⟨w.heap.size + 1 + 1, 1, none⟩) (by simp <;> omega) _)

set_option maxHeartbeats 1000000 in
theorem ref5_Dot (A1 B1 A2 B2 : Option Addr) (k1 l1 k2 l2 c1 d1 c2 d2 : Nat) (x1 y1 x2 y2 : Int) (w : World) (a1 : Nm w A1 k1 c1 x1) (a2 : Nm w B1 l1 d1 y1) (a3 : Nm w A2 k2 c2 x2) (a4 : Nm w B2 l2 d2 y2) (K : Nat) (hK : K ≤ 10000) (h1 : k1 ≤ K) (h2 : l1 ≤ K) (h3 : k2 ≤ K) (h4 : l2 ≤ K) :
    Calls Try.prog 18 #[.agg #[.int .i64 (sg (x1)), .slice A1 k1 c1, .int .i64 (sg (y1)), .slice B1 l1 d1], .agg #[.int .i64 (sg (x2)), .slice A2 k2 c2, .int .i64 (sg (y2)), .slice B2 l2 d2]] w fun e w' => (∃ A k c, e = .returned (.agg #[.int .i64 (sg (x1 * x2 + y1 * y2)), .slice A k c]) ∧ k ≤ 2 * K + 1 ∧ Nm w' A k c (x1 * x2 + y1 * y2)) ∧ Below w.heap.size w w' := by
  have HB0 := Lib.hid (Below.refl w.heap.size w)
  have FX1 := Lib.hid a1
  have FY1 := Lib.hid a2
  have FX2 := Lib.hid a3
  have FY2 := Lib.hid a4
  clear a1 a2 a3 a4
  go_enter Try.func18, Try.ntmps18
  go_wp2_with fail
  have B : Below w.heap.size w (((w.alloc (.cells #[.int .i64 (sg (x1)), .slice A1 k1 c1, .int .i64 (sg (y1)), .slice B1 l1 d1] 32)).alloc (.cells #[.int .i64 (sg (x2)), .slice A2 k2 c2, .int .i64 (sg (y2)), .slice B2 l2 d2] 32)).alloc (.cells #[.int .i64 0, .slice none 0 0] 30)) := (((HB0.out.alloc HB0.out.size _).alloc (HB0.out.alloc HB0.out.size _).size _).alloc ((HB0.out.alloc HB0.out.size _).alloc (HB0.out.alloc HB0.out.size _).size _).size _)
  have C : Below w.heap.size w (((w.alloc (.cells #[.int .i64 (sg (x1)), .slice A1 k1 c1, .int .i64 (sg (y1)), .slice B1 l1 d1] 32)).alloc (.cells #[.int .i64 (sg (x2)), .slice A2 k2 c2, .int .i64 (sg (y2)), .slice B2 l2 d2] 32)).alloc (.cells #[.int .i64 0, .slice none 0 0] 30)) := ((((Below.refl w.heap.size w).alloc (Nat.le_refl _) _).alloc (by simp; try omega) _).alloc (by simp; try omega) _)
  have X0 : Bx (((w.alloc (.cells #[.int .i64 (sg (x1)), .slice A1 k1 c1, .int .i64 (sg (y1)), .slice B1 l1 d1] 32)).alloc (.cells #[.int .i64 (sg (x2)), .slice A2 k2 c2, .int .i64 (sg (y2)), .slice B2 l2 d2] 32)).alloc (.cells #[.int .i64 0, .slice none 0 0] 30)) (w.heap.size) #[.int .i64 (sg (x1)), .slice A1 k1 c1, .int .i64 (sg (y1)), .slice B1 l1 d1] 32 := by simpa using (((Bx.new w #[.int .i64 (sg (x1)), .slice A1 k1 c1, .int .i64 (sg (y1)), .slice B1 l1 d1] 32).alloc _).alloc _)
  have X1 : Bx (((w.alloc (.cells #[.int .i64 (sg (x1)), .slice A1 k1 c1, .int .i64 (sg (y1)), .slice B1 l1 d1] 32)).alloc (.cells #[.int .i64 (sg (x2)), .slice A2 k2 c2, .int .i64 (sg (y2)), .slice B2 l2 d2] 32)).alloc (.cells #[.int .i64 0, .slice none 0 0] 30)) (w.heap.size + 1) #[.int .i64 (sg (x2)), .slice A2 k2 c2, .int .i64 (sg (y2)), .slice B2 l2 d2] 32 := by simpa using ((Bx.new (w.alloc (.cells #[.int .i64 (sg (x1)), .slice A1 k1 c1, .int .i64 (sg (y1)), .slice B1 l1 d1] 32)) #[.int .i64 (sg (x2)), .slice A2 k2 c2, .int .i64 (sg (y2)), .slice B2 l2 d2] 32).alloc _)
  have X2 : Bx (((w.alloc (.cells #[.int .i64 (sg (x1)), .slice A1 k1 c1, .int .i64 (sg (y1)), .slice B1 l1 d1] 32)).alloc (.cells #[.int .i64 (sg (x2)), .slice A2 k2 c2, .int .i64 (sg (y2)), .slice B2 l2 d2] 32)).alloc (.cells #[.int .i64 0, .slice none 0 0] 30)) (w.heap.size + 1 + 1) #[.int .i64 0, .slice none 0 0] 30 := by simpa using (Bx.new ((w.alloc (.cells #[.int .i64 (sg (x1)), .slice A1 k1 c1, .int .i64 (sg (y1)), .slice B1 l1 d1] 32)).alloc (.cells #[.int .i64 (sg (x2)), .slice A2 k2 c2, .int .i64 (sg (y2)), .slice B2 l2 d2] 32)) #[.int .i64 0, .slice none 0 0] 30)
  have FX1_1 := Lib.hid (FX1.out.below C (Nat.le_refl _))
  have FY1_1 := Lib.hid (FY1.out.below C (Nat.le_refl _))
  have FX2_1 := Lib.hid (FX2.out.below C (Nat.le_refl _))
  have FY2_1 := Lib.hid (FY2.out.below C (Nat.le_refl _))
  have HB1 := Lib.hid B
  have FU_1 := Lib.hid X0
  have FV_1 := Lib.hid X1
  have FR_1 := Lib.hid X2
  clear B C X0 X1 X2 HB0 FX1 FY1 FX2 FY2
  generalize (((w.alloc (.cells #[.int .i64 (sg (x1)), .slice A1 k1 c1, .int .i64 (sg (y1)), .slice B1 l1 d1] 32)).alloc (.cells #[.int .i64 (sg (x2)), .slice A2 k2 c2, .int .i64 (sg (y2)), .slice B2 l2 d2] 32)).alloc (.cells #[.int .i64 0, .slice none 0 0] 30)) = w1 at *
  have RB1 := Lib.hid (below_drew0 w1)
  have QS1 := Lib.hid (show w1.cell? ⟨w.heap.size, 0, none⟩ = some (.int .i64 (sg x1)) ∧ w1.cell? ⟨w.heap.size, 1, none⟩ = some (.slice A1 k1 c1) ∧ w1.cell? ⟨w.heap.size, 2, none⟩ = some (.int .i64 (sg y1)) ∧ w1.cell? ⟨w.heap.size, 3, none⟩ = some (.slice B1 l1 d1) ∧ w1.cell? ⟨w.heap.size + 1, 0, none⟩ = some (.int .i64 (sg x2)) ∧ w1.cell? ⟨w.heap.size + 1, 1, none⟩ = some (.slice A2 k2 c2) ∧ w1.cell? ⟨w.heap.size + 1, 2, none⟩ = some (.int .i64 (sg y2)) ∧ w1.cell? ⟨w.heap.size + 1, 3, none⟩ = some (.slice B2 l2 d2) from ⟨FU_1.out.cell 0 (v := .int .i64 (sg x1)) rfl, FU_1.out.cell 1 (v := .slice A1 k1 c1) rfl, FU_1.out.cell 2 (v := .int .i64 (sg y1)) rfl, FU_1.out.cell 3 (v := .slice B1 l1 d1) rfl, FV_1.out.cell 0 (v := .int .i64 (sg x2)) rfl, FV_1.out.cell 1 (v := .slice A2 k2 c2) rfl, FV_1.out.cell 2 (v := .int .i64 (sg y2)) rfl, FV_1.out.cell 3 (v := .slice B2 l2 d2) rfl⟩)
  have QF1 := Lib.hid (show ∀ w', Below w1.heap.size w1 w' → w'.cell? ⟨w.heap.size, 0, none⟩ = some (.int .i64 (sg x1)) ∧ w'.cell? ⟨w.heap.size, 1, none⟩ = some (.slice A1 k1 c1) ∧ w'.cell? ⟨w.heap.size, 2, none⟩ = some (.int .i64 (sg y1)) ∧ w'.cell? ⟨w.heap.size, 3, none⟩ = some (.slice B1 l1 d1) ∧ w'.cell? ⟨w.heap.size + 1, 0, none⟩ = some (.int .i64 (sg x2)) ∧ w'.cell? ⟨w.heap.size + 1, 1, none⟩ = some (.slice A2 k2 c2) ∧ w'.cell? ⟨w.heap.size + 1, 2, none⟩ = some (.int .i64 (sg y2)) ∧ w'.cell? ⟨w.heap.size + 1, 3, none⟩ = some (.slice B2 l2 d2) from fun w' hb => ⟨(FU_1.out.below hb (Nat.le_refl _)).cell 0 (v := .int .i64 (sg x1)) rfl, (FU_1.out.below hb (Nat.le_refl _)).cell 1 (v := .slice A1 k1 c1) rfl, (FU_1.out.below hb (Nat.le_refl _)).cell 2 (v := .int .i64 (sg y1)) rfl, (FU_1.out.below hb (Nat.le_refl _)).cell 3 (v := .slice B1 l1 d1) rfl, (FV_1.out.below hb (Nat.le_refl _)).cell 0 (v := .int .i64 (sg x2)) rfl, (FV_1.out.below hb (Nat.le_refl _)).cell 1 (v := .slice A2 k2 c2) rfl, (FV_1.out.below hb (Nat.le_refl _)).cell 2 (v := .int .i64 (sg y2)) rfl, (FV_1.out.below hb (Nat.le_refl _)).cell 3 (v := .slice B2 l2 d2) rfl⟩)
  go_region_held3 (fun w' => w'.cell? ⟨w.heap.size, 0, none⟩ = some (.int .i64 (sg x1)) ∧ w'.cell? ⟨w.heap.size, 1, none⟩ = some (.slice A1 k1 c1) ∧ w'.cell? ⟨w.heap.size, 2, none⟩ = some (.int .i64 (sg y1)) ∧ w'.cell? ⟨w.heap.size, 3, none⟩ = some (.slice B1 l1 d1) ∧ w'.cell? ⟨w.heap.size + 1, 0, none⟩ = some (.int .i64 (sg x2)) ∧ w'.cell? ⟨w.heap.size + 1, 1, none⟩ = some (.slice A2 k2 c2) ∧ w'.cell? ⟨w.heap.size + 1, 2, none⟩ = some (.int .i64 (sg y2)) ∧ w'.cell? ⟨w.heap.size + 1, 3, none⟩ = some (.slice B2 l2 d2)) (first | with_reducible exact QF1.out _ RB4.out | with_reducible exact QF1.out _ RB3.out | with_reducible exact QF1.out _ RB2.out | with_reducible exact QS1.out | with_reducible exact QF1.out _ RB1.out | with_reducible exact ⟨keep_set (keep_set ((QF1.out _ RB4.out).1) (by simp <;> omega)) (by simp <;> omega), keep_set (keep_set ((QF1.out _ RB4.out).2.1) (by simp <;> omega)) (by simp <;> omega), keep_set (keep_set ((QF1.out _ RB4.out).2.2.1) (by simp <;> omega)) (by simp <;> omega), keep_set (keep_set ((QF1.out _ RB4.out).2.2.2.1) (by simp <;> omega)) (by simp <;> omega), keep_set (keep_set ((QF1.out _ RB4.out).2.2.2.2.1) (by simp <;> omega)) (by simp <;> omega), keep_set (keep_set ((QF1.out _ RB4.out).2.2.2.2.2.1) (by simp <;> omega)) (by simp <;> omega), keep_set (keep_set ((QF1.out _ RB4.out).2.2.2.2.2.2.1) (by simp <;> omega)) (by simp <;> omega), keep_set (keep_set ((QF1.out _ RB4.out).2.2.2.2.2.2.2) (by simp <;> omega)) (by simp <;> omega)⟩) (first
      | (go_at_call 26; have := RB3; clear this; refine (ref3_Add P0 P1 p0 q0 p1 q1 _ _ _ RM0_3.out RM1_3.out (by omega) (by omega)).mono ?_; rintro e w4 ⟨⟨P2, p2, q2, rfl, b2, N2⟩, B⟩; have RB4 := Lib.hid (RB3.out.trans (B.mono RB3.out.size)); have RM0_4 := Lib.hid (RM0_3.out.below B (Nat.le_refl _)); have RM1_4 := Lib.hid (RM1_3.out.below B (Nat.le_refl _)); have RM2_4 := Lib.hid N2; clear B N2; have q0 := (FR_1.out.below RB4.out (Nat.le_refl _)).cell 0 (v := .int .i64 0) rfl; have q1 := (FR_1.out.below RB4.out (Nat.le_refl _)).cell 1 (v := .slice none 0 0) rfl; have z0 := (FR_1.out.below RB4.out (Nat.le_refl _)).free 0; have z1 := (FR_1.out.below RB4.out (Nat.le_refl _)).free 1)
      | (go_at_call 27; have := RB2; clear this; refine (ref3_Mul B1 B2 l1 d1 l2 d2 y1 y2 _ (FY1_1.out.below RB2.out (Nat.le_refl _)) (FY2_1.out.below RB2.out (Nat.le_refl _)) (by omega) (by omega)).mono ?_; rintro e w3 ⟨⟨P1, p1, q1, rfl, b1, N1⟩, B⟩; have RB3 := Lib.hid (RB2.out.trans (B.mono RB2.out.size)); have RM0_3 := Lib.hid (RM0_2.out.below B (Nat.le_refl _)); have RM1_3 := Lib.hid N1; clear B N1)
      | (go_at_call 27; have := RB1; clear this; refine (ref3_Mul A1 A2 k1 c1 k2 c2 x1 x2 _ (FX1_1.out.below RB1.out (Nat.le_refl _)) (FX2_1.out.below RB1.out (Nat.le_refl _)) (by omega) (by omega)).mono ?_; rintro e w2 ⟨⟨P0, p0, q0, rfl, b0, N0⟩, B⟩; have RB2 := Lib.hid (RB1.out.trans (B.mono RB1.out.size)); have RM0_2 := Lib.hid N0; clear B N0))
  have FX1_4 := Lib.hid (FX1_1.out.below RB4.out (Nat.le_refl _))
  have FY1_4 := Lib.hid (FY1_1.out.below RB4.out (Nat.le_refl _))
  have FX2_4 := Lib.hid (FX2_1.out.below RB4.out (Nat.le_refl _))
  have FY2_4 := Lib.hid (FY2_1.out.below RB4.out (Nat.le_refl _))
  have FU_4 := Lib.hid (FU_1.out.below RB4.out (Nat.le_refl _))
  have FV_4 := Lib.hid (FV_1.out.below RB4.out (Nat.le_refl _))
  have FR_4 := Lib.hid (FR_1.out.below RB4.out (Nat.le_refl _))
  have HB4 := Lib.hid (HB1.out.trans (RB4.out.mono HB1.out.size))
  clear HB1 FX1_1 FY1_1 FX2_1 FY2_1 FU_1 FV_1 FR_1
  go_wp2_with fail
  have r0 := FR_4.out
  have r1 := r0.set 0 (.int .i64 (sg (x1 * x2 + y1 * y2)))
  refine bodyPost_ret (v := .agg #[.int .i64 (sg (x1 * x2 + y1 * y2)), .slice P2 p2 q2]) (by simp [results, Try.results18, go_sem, q0, q1]) rfl ⟨⟨P2, p2, q2, rfl, by omega, ((RM2_4.out.setB r0 (by decide)).setB r1 (by decide))⟩, ?_⟩
  exact ((HB4.out.setCell (p := ⟨w.heap.size + 1 + 1, 0, none⟩) (by simp <;> omega) _).setCell (p := ⟨w.heap.size + 1 + 1, 1, none⟩) (by simp <;> omega) _)

end Go.Proofs.Ytfjanlfbnliokaa
