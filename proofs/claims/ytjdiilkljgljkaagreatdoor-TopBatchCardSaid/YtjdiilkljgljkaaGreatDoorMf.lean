/- Part f of the lemmas of TopBatch: contracts of functions of the program, and plain laws of numbers, bytes and memory. -/
import Derived.Test.YtjdiilkljgljkaaGreatDoorMe
import Derived.Test.YtjdiilkljgljkaaGreatDoorMa
import Derived.Test.YtjdiilkljgljkaaGreatDoorMc
import Derived.Test.YtjdiilkljgljkaaGreatDoorMd
import Derived.Deep.RegionHeld3
import Derived.LoopTactic
set_option maxHeartbeats 4000000
namespace Go.Proofs.YtjdiilkljgljkaaGreatDoor
set_option linter.unusedVariables false
set_option linter.unusedSimpArgs false
open Go.RowKit Wd
theorem ZiN (ax ay bx b_ cx cy : Int) : bx * cy - b_ * cx - (ax * cy - ay * cx) + (ax * b_ - ay * bx) = det ax ay bx b_ cx cy := by unfold det; grind
theorem Ze7 (A A' : Option Addr) (n c m c' : Nat) (x y z : Int) (hz : x + y = z) (w : World) (ha : Nm w A n c x) (hb : Nm w A' m c' y) (hn : n ≤ 99999) (hm : m ≤ 99999) :
  Calls Tryz.prog 34 #[.agg #[.int .i64 (sg x), .slice A n c], .agg #[.int .i64 (sg y), .slice A' m c']] w fun e w' => (∃ A2 k c2, e = .returned (.agg #[.int .i64 (sg z), .slice A2 k c2]) ∧ k ≤ max n m + 1 ∧ Nm w' A2 k c2 z) ∧ Below w.heap.size w w' := by
 subst hz; exact ZcX A A' n c m c' x y w ha hb hn hm
set_option maxHeartbeats 1000000 in
theorem Zch (a b : Int) (ha : IsI a) (hb : IsI b) (w : World) :
  Calls Tryz.prog 92 #[.int .i64 a, .int .i64 b] w fun e w' => (∃ A k c, e = .returned (.agg #[.int .i64 (sg (a * b)), .slice A k c]) ∧ k ≤ 8 ∧ Nm w' A k c (a * b)) ∧ Below w.heap.size w w' := by
 have HB0 := η (Below.refl w.heap.size w)
 go_enter Tryz.func92, Tryz.ntmps92
 go_wp2_with fail
 have B : Below w.heap.size w (w.alloc (.cells #[.int .i64 0, .slice none 0 0] 41)) := (HB0.out.alloc HB0.out.size _)
 have C : Below w.heap.size w (w.alloc (.cells #[.int .i64 0, .slice none 0 0] 41)) := ((Below.refl w.heap.size w).alloc ν _)
 have X0 : Bx (w.alloc (.cells #[.int .i64 0, .slice none 0 0] 41)) (w.heap.size) #[.int .i64 0, .slice none 0 0] 41 := by simpa using (Bx.new w #[.int .i64 0, .slice none 0 0] 41)
 have HB1 := η B
 have FR_1 := η X0
 clear B C X0 HB0
 generalize (w.alloc (.cells #[.int .i64 0, .slice none 0 0] 41)) = w1 at *
 skip
 refine (ZbS a ha _).mono ?_
 rintro e w2 ⟨⟨A1, k1, c1, rfl, b1, N1⟩, B⟩
 have HB2 := η (HB1.out.trans (B.mono HB1.out.size))
 have FR_2 := η (FR_1.out.below B ν)
 have FA_2 := η N1
 clear B N1 HB1 FR_1
 go_wp2_with fail
 refine (ZbS b hb _).mono ?_
 rintro e w3 ⟨⟨A2, k2, c2, rfl, b2, N2⟩, B⟩
 have HB3 := η (HB2.out.trans (B.mono HB2.out.size))
 have FR_3 := η (FR_2.out.below B ν)
 have FA_3 := η (FA_2.out.below B ν)
 have FB_3 := η N2
 clear B N2 HB2 FR_2 FA_2
 go_wp2_with fail
 refine (Zar _ _ _ _ _ _ _ _ _ FA_3.out FB_3.out (by omega) (by omega)).mono ?_
 rintro e w4 ⟨⟨A3, k3, c3, rfl, b3, N3⟩, B⟩
 have HB4 := η (HB3.out.trans (B.mono HB3.out.size))
 have FR_4 := η (FR_3.out.below B ν)
 have FA_4 := η (FA_3.out.below B ν)
 have FB_4 := η (FB_3.out.below B ν)
 have FC_4 := η N3
 clear B N3 HB3 FR_3 FA_3 FB_3
 have q0 := FR_4.out.cell 0 (v := .int .i64 0) rfl; have q1 := FR_4.out.cell 1 (v := .slice none 0 0) rfl; have z0 := FR_4.out.free 0; have z1 := FR_4.out.free 1
 go_wp2_with fail
 have r0 := FR_4.out
 have r1 := r0.set 0 (.int .i64 (sg (a * b)))
 refine bodyPost_ret (v := .agg #[.int .i64 (sg (a * b)), .slice A3 k3 c3]) (by simp [results, Tryz.results92, go_sem, q0, q1]) rfl ⟨⟨A3, k3, c3, rfl, by omega, ((FC_4.out.setB r0 (by decide)).setB r1 (by decide))⟩, ?_⟩
 exact ((HB4.out.setCell (p := ⟨w.heap.size, 0, none⟩) (by simp <;> omega) _).setCell (p := ⟨w.heap.size, 1, none⟩) (by simp <;> omega) _)
set_option maxHeartbeats 1000000 in
theorem ZbT (ax ay bx b_ : Int) (h1 : IsI ax) (h2 : IsI ay) (h3 : IsI bx) (h4 : IsI b_) (w : World) :
  Calls Tryz.prog 57 #[.agg #[.int .i64 ax, .int .i64 ay], .agg #[.int .i64 bx, .int .i64 b_]] w fun e w' => (∃ A k c, e = .returned (.agg #[.int .i64 (sg (ax * b_ - ay * bx)), .slice A k c]) ∧ k ≤ 9 ∧ Nm w' A k c (ax * b_ - ay * bx)) ∧ Below w.heap.size w w' := by
 have HB0 := η (Below.refl w.heap.size w)
 go_enter Tryz.func57, Tryz.ntmps57
 go_wp2_with fail
 have B : Below w.heap.size w (((w.alloc (.cells #[.int .i64 ax, .int .i64 ay] 23)).alloc (.cells #[.int .i64 bx, .int .i64 b_] 23)).alloc (.cells #[.int .i64 0, .slice none 0 0] 41)) := (((HB0.out.alloc HB0.out.size _).alloc (HB0.out.alloc HB0.out.size _).size _).alloc ((HB0.out.alloc HB0.out.size _).alloc (HB0.out.alloc HB0.out.size _).size _).size _)
 have C : Below w.heap.size w (((w.alloc (.cells #[.int .i64 ax, .int .i64 ay] 23)).alloc (.cells #[.int .i64 bx, .int .i64 b_] 23)).alloc (.cells #[.int .i64 0, .slice none 0 0] 41)) := ((((Below.refl w.heap.size w).alloc ν _).alloc (by simp; try omega) _).alloc (by simp; try omega) _)
 have X0 : Bx (((w.alloc (.cells #[.int .i64 ax, .int .i64 ay] 23)).alloc (.cells #[.int .i64 bx, .int .i64 b_] 23)).alloc (.cells #[.int .i64 0, .slice none 0 0] 41)) (w.heap.size) #[.int .i64 ax, .int .i64 ay] 23 := by simpa using (((Bx.new w #[.int .i64 ax, .int .i64 ay] 23).alloc _).alloc _)
 have X1 : Bx (((w.alloc (.cells #[.int .i64 ax, .int .i64 ay] 23)).alloc (.cells #[.int .i64 bx, .int .i64 b_] 23)).alloc (.cells #[.int .i64 0, .slice none 0 0] 41)) (w.heap.size + 1) #[.int .i64 bx, .int .i64 b_] 23 := by simpa using ((Bx.new (w.alloc (.cells #[.int .i64 ax, .int .i64 ay] 23)) #[.int .i64 bx, .int .i64 b_] 23).alloc _)
 have X2 : Bx (((w.alloc (.cells #[.int .i64 ax, .int .i64 ay] 23)).alloc (.cells #[.int .i64 bx, .int .i64 b_] 23)).alloc (.cells #[.int .i64 0, .slice none 0 0] 41)) (w.heap.size + 1 + 1) #[.int .i64 0, .slice none 0 0] 41 := by simpa using (Bx.new ((w.alloc (.cells #[.int .i64 ax, .int .i64 ay] 23)).alloc (.cells #[.int .i64 bx, .int .i64 b_] 23)) #[.int .i64 0, .slice none 0 0] 41)
 have HB1 := η B
 have FP_1 := η X0
 have FQ_1 := η X1
 have FR_1 := η X2
 clear B C X0 X1 X2 HB0
 generalize (((w.alloc (.cells #[.int .i64 ax, .int .i64 ay] 23)).alloc (.cells #[.int .i64 bx, .int .i64 b_] 23)).alloc (.cells #[.int .i64 0, .slice none 0 0] 41)) = w1 at *
 have RB1 := η (Je w1)
 have QS1 := η (show w1.cell? ⟨w.heap.size, 0, none⟩ = some (.int .i64 ax) ∧ w1.cell? ⟨w.heap.size, 1, none⟩ = some (.int .i64 ay) ∧ w1.cell? ⟨w.heap.size + 1, 0, none⟩ = some (.int .i64 bx) ∧ w1.cell? ⟨w.heap.size + 1, 1, none⟩ = some (.int .i64 b_) from ⟨FP_1.out.cell 0 (v := .int .i64 ax) rfl, FP_1.out.cell 1 (v := .int .i64 ay) rfl, FQ_1.out.cell 0 (v := .int .i64 bx) rfl, FQ_1.out.cell 1 (v := .int .i64 b_) rfl⟩)
 have QF1 := η (show ∀ w', Below w1.heap.size w1 w' → w'.cell? ⟨w.heap.size, 0, none⟩ = some (.int .i64 ax) ∧ w'.cell? ⟨w.heap.size, 1, none⟩ = some (.int .i64 ay) ∧ w'.cell? ⟨w.heap.size + 1, 0, none⟩ = some (.int .i64 bx) ∧ w'.cell? ⟨w.heap.size + 1, 1, none⟩ = some (.int .i64 b_) from fun w' hb => ⟨(FP_1.out.below hb ν).cell 0 (v := .int .i64 ax) rfl, (FP_1.out.below hb ν).cell 1 (v := .int .i64 ay) rfl, (FQ_1.out.below hb ν).cell 0 (v := .int .i64 bx) rfl, (FQ_1.out.below hb ν).cell 1 (v := .int .i64 b_) rfl⟩)
 go_region_held3 (fun w' => w'.cell? ⟨w.heap.size, 0, none⟩ = some (.int .i64 ax) ∧ w'.cell? ⟨w.heap.size, 1, none⟩ = some (.int .i64 ay) ∧ w'.cell? ⟨w.heap.size + 1, 0, none⟩ = some (.int .i64 bx) ∧ w'.cell? ⟨w.heap.size + 1, 1, none⟩ = some (.int .i64 b_)) (first | with_reducible exact QF1.out _ RB4.out | with_reducible exact QF1.out _ RB3.out | with_reducible exact QF1.out _ RB2.out | with_reducible exact QS1.out | with_reducible exact QF1.out _ RB1.out | with_reducible exact ⟨Jc (Jc ((QF1.out _ RB4.out).1) (by simp <;> omega)) (by simp <;> omega), Jc (Jc ((QF1.out _ RB4.out).2.1) (by simp <;> omega)) (by simp <;> omega), Jc (Jc ((QF1.out _ RB4.out).2.2.1) (by simp <;> omega)) (by simp <;> omega), Jc (Jc ((QF1.out _ RB4.out).2.2.2) (by simp <;> omega)) (by simp <;> omega)⟩) (first
   | (go_at_call 35; have := RB3; clear this; refine (ZbR P0 P1 p0 g0 p1 g1 _ _ _ RM0_3.out RM1_3.out (by omega) (by omega)).mono ?_; rintro e w4 ⟨⟨P2, p2, g2, rfl, b2, N2⟩, B⟩; have RB4 := η (RB3.out.trans (B.mono RB3.out.size)); have RM0_4 := η (RM0_3.out.below B ν); have RM1_4 := η (RM1_3.out.below B ν); have RM2_4 := η N2; clear B N2; have q0 := (FR_1.out.below RB4.out ν).cell 0 (v := .int .i64 0) rfl; have q1 := (FR_1.out.below RB4.out ν).cell 1 (v := .slice none 0 0) rfl; have z0 := (FR_1.out.below RB4.out ν).free 0; have z1 := (FR_1.out.below RB4.out ν).free 1)
   | (go_at_call 92; have := RB2; clear this; refine (Zch ay bx h2 h3 _).mono ?_; rintro e w3 ⟨⟨P1, p1, g1, rfl, b1, N1⟩, B⟩; have RB3 := η (RB2.out.trans (B.mono RB2.out.size)); have RM0_3 := η (RM0_2.out.below B ν); have RM1_3 := η N1; clear B N1)
   | (go_at_call 92; have := RB1; clear this; refine (Zch ax b_ h1 h4 _).mono ?_; rintro e w2 ⟨⟨P0, p0, g0, rfl, b0, N0⟩, B⟩; have RB2 := η (RB1.out.trans (B.mono RB1.out.size)); have RM0_2 := η N0; clear B N0))
 have FP_4 := η (FP_1.out.below RB4.out ν)
 have FQ_4 := η (FQ_1.out.below RB4.out ν)
 have FR_4 := η (FR_1.out.below RB4.out ν)
 have HB4 := η (HB1.out.trans (RB4.out.mono HB1.out.size))
 clear HB1 FP_1 FQ_1 FR_1
 go_wp2_with fail
 have r0 := FR_4.out
 have r1 := r0.set 0 (.int .i64 (sg (ax * b_ - ay * bx)))
 refine bodyPost_ret (v := .agg #[.int .i64 (sg (ax * b_ - ay * bx)), .slice P2 p2 g2]) (by simp [results, Tryz.results57, go_sem, q0, q1]) rfl ⟨⟨P2, p2, g2, rfl, by omega, ((RM2_4.out.setB r0 (by decide)).setB r1 (by decide))⟩, ?_⟩
 exact ((HB4.out.setCell (p := ⟨w.heap.size + 1 + 1, 0, none⟩) (by simp <;> omega) _).setCell (p := ⟨w.heap.size + 1 + 1, 1, none⟩) (by simp <;> omega) _)
set_option maxHeartbeats 1000000 in
theorem ZaC (ax ay bx b_ cx cy : Int) (hp : P3 ax ay bx b_ cx cy) (w : World) :
  Calls Tryz.prog 31 #[.agg #[.int .i64 ax, .int .i64 ay], .agg #[.int .i64 bx, .int .i64 b_], .agg #[.int .i64 cx, .int .i64 cy]] w fun e w' => (∃ A k c, e = .returned (.agg #[.int .i64 (sg (det ax ay bx b_ cx cy)), .slice A k c]) ∧ k ≤ 11 ∧ Nm w' A k c (det ax ay bx b_ cx cy)) ∧ Below w.heap.size w w' := by
 have HB0 := η (Below.refl w.heap.size w)
 go_enter Tryz.func31, Tryz.ntmps31
 go_wp2_with fail
 have B : Below w.heap.size w ((((w.alloc (.cells #[.int .i64 ax, .int .i64 ay] 23)).alloc (.cells #[.int .i64 bx, .int .i64 b_] 23)).alloc (.cells #[.int .i64 cx, .int .i64 cy] 23)).alloc (.cells #[.int .i64 0, .slice none 0 0] 41)) := ((((HB0.out.alloc HB0.out.size _).alloc (HB0.out.alloc HB0.out.size _).size _).alloc ((HB0.out.alloc HB0.out.size _).alloc (HB0.out.alloc HB0.out.size _).size _).size _).alloc (((HB0.out.alloc HB0.out.size _).alloc (HB0.out.alloc HB0.out.size _).size _).alloc ((HB0.out.alloc HB0.out.size _).alloc (HB0.out.alloc HB0.out.size _).size _).size _).size _)
 have C : Below w.heap.size w ((((w.alloc (.cells #[.int .i64 ax, .int .i64 ay] 23)).alloc (.cells #[.int .i64 bx, .int .i64 b_] 23)).alloc (.cells #[.int .i64 cx, .int .i64 cy] 23)).alloc (.cells #[.int .i64 0, .slice none 0 0] 41)) := (((((Below.refl w.heap.size w).alloc ν _).alloc (by simp; try omega) _).alloc (by simp; try omega) _).alloc (by simp; try omega) _)
 have X0 : Bx ((((w.alloc (.cells #[.int .i64 ax, .int .i64 ay] 23)).alloc (.cells #[.int .i64 bx, .int .i64 b_] 23)).alloc (.cells #[.int .i64 cx, .int .i64 cy] 23)).alloc (.cells #[.int .i64 0, .slice none 0 0] 41)) (w.heap.size) #[.int .i64 ax, .int .i64 ay] 23 := by simpa using ((((Bx.new w #[.int .i64 ax, .int .i64 ay] 23).alloc _).alloc _).alloc _)
 have X1 : Bx ((((w.alloc (.cells #[.int .i64 ax, .int .i64 ay] 23)).alloc (.cells #[.int .i64 bx, .int .i64 b_] 23)).alloc (.cells #[.int .i64 cx, .int .i64 cy] 23)).alloc (.cells #[.int .i64 0, .slice none 0 0] 41)) (w.heap.size + 1) #[.int .i64 bx, .int .i64 b_] 23 := by simpa using (((Bx.new (w.alloc (.cells #[.int .i64 ax, .int .i64 ay] 23)) #[.int .i64 bx, .int .i64 b_] 23).alloc _).alloc _)
 have X2 : Bx ((((w.alloc (.cells #[.int .i64 ax, .int .i64 ay] 23)).alloc (.cells #[.int .i64 bx, .int .i64 b_] 23)).alloc (.cells #[.int .i64 cx, .int .i64 cy] 23)).alloc (.cells #[.int .i64 0, .slice none 0 0] 41)) (w.heap.size + 1 + 1) #[.int .i64 cx, .int .i64 cy] 23 := by simpa using ((Bx.new ((w.alloc (.cells #[.int .i64 ax, .int .i64 ay] 23)).alloc (.cells #[.int .i64 bx, .int .i64 b_] 23)) #[.int .i64 cx, .int .i64 cy] 23).alloc _)
 have X3 : Bx ((((w.alloc (.cells #[.int .i64 ax, .int .i64 ay] 23)).alloc (.cells #[.int .i64 bx, .int .i64 b_] 23)).alloc (.cells #[.int .i64 cx, .int .i64 cy] 23)).alloc (.cells #[.int .i64 0, .slice none 0 0] 41)) (w.heap.size + 1 + 1 + 1) #[.int .i64 0, .slice none 0 0] 41 := by simpa using (Bx.new (((w.alloc (.cells #[.int .i64 ax, .int .i64 ay] 23)).alloc (.cells #[.int .i64 bx, .int .i64 b_] 23)).alloc (.cells #[.int .i64 cx, .int .i64 cy] 23)) #[.int .i64 0, .slice none 0 0] 41)
 have HB1 := η B
 have FP_1 := η X0
 have FQ_1 := η X1
 have FT_1 := η X2
 have FR_1 := η X3
 clear B C X0 X1 X2 X3 HB0
 generalize ((((w.alloc (.cells #[.int .i64 ax, .int .i64 ay] 23)).alloc (.cells #[.int .i64 bx, .int .i64 b_] 23)).alloc (.cells #[.int .i64 cx, .int .i64 cy] 23)).alloc (.cells #[.int .i64 0, .slice none 0 0] 41)) = w1 at *
 have RB1 := η (Je w1)
 have QS1 := η (show w1.cell? ⟨w.heap.size, 0, none⟩ = some (.int .i64 ax) ∧ w1.cell? ⟨w.heap.size, 1, none⟩ = some (.int .i64 ay) ∧ w1.cell? ⟨w.heap.size + 1, 0, none⟩ = some (.int .i64 bx) ∧ w1.cell? ⟨w.heap.size + 1, 1, none⟩ = some (.int .i64 b_) ∧ w1.cell? ⟨w.heap.size + 1 + 1, 0, none⟩ = some (.int .i64 cx) ∧ w1.cell? ⟨w.heap.size + 1 + 1, 1, none⟩ = some (.int .i64 cy) from ⟨FP_1.out.cell 0 (v := .int .i64 ax) rfl, FP_1.out.cell 1 (v := .int .i64 ay) rfl, FQ_1.out.cell 0 (v := .int .i64 bx) rfl, FQ_1.out.cell 1 (v := .int .i64 b_) rfl, FT_1.out.cell 0 (v := .int .i64 cx) rfl, FT_1.out.cell 1 (v := .int .i64 cy) rfl⟩)
 have QF1 := η (show ∀ w', Below w1.heap.size w1 w' → w'.cell? ⟨w.heap.size, 0, none⟩ = some (.int .i64 ax) ∧ w'.cell? ⟨w.heap.size, 1, none⟩ = some (.int .i64 ay) ∧ w'.cell? ⟨w.heap.size + 1, 0, none⟩ = some (.int .i64 bx) ∧ w'.cell? ⟨w.heap.size + 1, 1, none⟩ = some (.int .i64 b_) ∧ w'.cell? ⟨w.heap.size + 1 + 1, 0, none⟩ = some (.int .i64 cx) ∧ w'.cell? ⟨w.heap.size + 1 + 1, 1, none⟩ = some (.int .i64 cy) from fun w' hb => ⟨(FP_1.out.below hb ν).cell 0 (v := .int .i64 ax) rfl, (FP_1.out.below hb ν).cell 1 (v := .int .i64 ay) rfl, (FQ_1.out.below hb ν).cell 0 (v := .int .i64 bx) rfl, (FQ_1.out.below hb ν).cell 1 (v := .int .i64 b_) rfl, (FT_1.out.below hb ν).cell 0 (v := .int .i64 cx) rfl, (FT_1.out.below hb ν).cell 1 (v := .int .i64 cy) rfl⟩)
 go_region_held3 (fun w' => w'.cell? ⟨w.heap.size, 0, none⟩ = some (.int .i64 ax) ∧ w'.cell? ⟨w.heap.size, 1, none⟩ = some (.int .i64 ay) ∧ w'.cell? ⟨w.heap.size + 1, 0, none⟩ = some (.int .i64 bx) ∧ w'.cell? ⟨w.heap.size + 1, 1, none⟩ = some (.int .i64 b_) ∧ w'.cell? ⟨w.heap.size + 1 + 1, 0, none⟩ = some (.int .i64 cx) ∧ w'.cell? ⟨w.heap.size + 1 + 1, 1, none⟩ = some (.int .i64 cy)) (first | with_reducible exact QF1.out _ RB6.out | with_reducible exact QF1.out _ RB5.out | with_reducible exact QF1.out _ RB4.out | with_reducible exact QF1.out _ RB3.out | with_reducible exact QF1.out _ RB2.out | with_reducible exact QS1.out | with_reducible exact QF1.out _ RB1.out | with_reducible exact ⟨Jc (Jc ((QF1.out _ RB6.out).1) (by simp <;> omega)) (by simp <;> omega), Jc (Jc ((QF1.out _ RB6.out).2.1) (by simp <;> omega)) (by simp <;> omega), Jc (Jc ((QF1.out _ RB6.out).2.2.1) (by simp <;> omega)) (by simp <;> omega), Jc (Jc ((QF1.out _ RB6.out).2.2.2.1) (by simp <;> omega)) (by simp <;> omega), Jc (Jc ((QF1.out _ RB6.out).2.2.2.2.1) (by simp <;> omega)) (by simp <;> omega), Jc (Jc ((QF1.out _ RB6.out).2.2.2.2.2) (by simp <;> omega)) (by simp <;> omega)⟩) (first
   | (go_at_call 34; have := RB5; clear this; refine (Ze7 P2 P3 p2 g2 p3 g3 _ _ _ (ZiN ax ay bx b_ cx cy) _ RM2_5.out RM3_5.out (by omega) (by omega)).mono ?_; rintro e w6 ⟨⟨P4, p4, g4, rfl, b4, N4⟩, B⟩; have RB6 := η (RB5.out.trans (B.mono RB5.out.size)); have RM0_6 := η (RM0_5.out.below B ν); have RM1_6 := η (RM1_5.out.below B ν); have RM2_6 := η (RM2_5.out.below B ν); have RM3_6 := η (RM3_5.out.below B ν); have RM4_6 := η N4; clear B N4; have q0 := (FR_1.out.below RB6.out ν).cell 0 (v := .int .i64 0) rfl; have q1 := (FR_1.out.below RB6.out ν).cell 1 (v := .slice none 0 0) rfl; have z0 := (FR_1.out.below RB6.out ν).free 0; have z1 := (FR_1.out.below RB6.out ν).free 1)
   | (go_at_call 57; have := RB4; clear this; refine (ZbT ax ay bx b_ hp.a hp.b hp.c hp.d _).mono ?_; rintro e w5 ⟨⟨P3, p3, g3, rfl, b3, N3⟩, B⟩; have RB5 := η (RB4.out.trans (B.mono RB4.out.size)); have RM0_5 := η (RM0_4.out.below B ν); have RM1_5 := η (RM1_4.out.below B ν); have RM2_5 := η (RM2_4.out.below B ν); have RM3_5 := η N3; clear B N3)
   | (go_at_call 35; have := RB3; clear this; refine (ZbR P0 P1 p0 g0 p1 g1 _ _ _ RM0_3.out RM1_3.out (by omega) (by omega)).mono ?_; rintro e w4 ⟨⟨P2, p2, g2, rfl, b2, N2⟩, B⟩; have RB4 := η (RB3.out.trans (B.mono RB3.out.size)); have RM0_4 := η (RM0_3.out.below B ν); have RM1_4 := η (RM1_3.out.below B ν); have RM2_4 := η N2; clear B N2)
   | (go_at_call 57; have := RB2; clear this; refine (ZbT ax ay cx cy hp.a hp.b hp.e hp.f _).mono ?_; rintro e w3 ⟨⟨P1, p1, g1, rfl, b1, N1⟩, B⟩; have RB3 := η (RB2.out.trans (B.mono RB2.out.size)); have RM0_3 := η (RM0_2.out.below B ν); have RM1_3 := η N1; clear B N1)
   | (go_at_call 57; have := RB1; clear this; refine (ZbT bx b_ cx cy hp.c hp.d hp.e hp.f _).mono ?_; rintro e w2 ⟨⟨P0, p0, g0, rfl, b0, N0⟩, B⟩; have RB2 := η (RB1.out.trans (B.mono RB1.out.size)); have RM0_2 := η N0; clear B N0))
 have FP_6 := η (FP_1.out.below RB6.out ν)
 have FQ_6 := η (FQ_1.out.below RB6.out ν)
 have FT_6 := η (FT_1.out.below RB6.out ν)
 have FR_6 := η (FR_1.out.below RB6.out ν)
 have HB6 := η (HB1.out.trans (RB6.out.mono HB1.out.size))
 clear HB1 FP_1 FQ_1 FT_1 FR_1
 go_wp2_with fail
 have r0 := FR_6.out
 have r1 := r0.set 0 (.int .i64 (sg (det ax ay bx b_ cx cy)))
 refine bodyPost_ret (v := .agg #[.int .i64 (sg (det ax ay bx b_ cx cy)), .slice P4 p4 g4]) (by simp [results, Tryz.results31, go_sem, q0, q1]) rfl ⟨⟨P4, p4, g4, rfl, by omega, ((RM4_6.out.setB r0 (by decide)).setB r1 (by decide))⟩, ?_⟩
 exact ((HB6.out.setCell (p := ⟨w.heap.size + 1 + 1 + 1, 0, none⟩) (by simp <;> omega) _).setCell (p := ⟨w.heap.size + 1 + 1 + 1, 1, none⟩) (by simp <;> omega) _)
set_option maxHeartbeats 1000000 in
theorem Zbn (ax ay bx b_ cx cy : Int) (hp : P3 ax ay bx b_ cx cy) (w : World) :
  Calls Tryz.prog 12 #[.agg #[.int .i64 ax, .int .i64 ay], .agg #[.int .i64 bx, .int .i64 b_], .agg #[.int .i64 cx, .int .i64 cy]] w fun e w' => e = .returned (.int .i64 (sg (det ax ay bx b_ cx cy))) ∧ Below w.heap.size w w' := by
 have HB0 := η (Below.refl w.heap.size w)
 have hfd : ∀ (s : Int) (V : Option Addr) (k c : Nat) (w : World), (Instr.field 41 (.agg #[.int .i64 s, .slice V k c]) 0).run Tryz.prog w = .ok (.int .i64 s) w := fun _ _ _ _ _ => by kernel_rfl
 go_enter Tryz.func12, Tryz.ntmps12
 go_wp2_with fail
 refine (ZaC _ _ _ _ _ _ hp _).mono ?_
 rintro e w1 ⟨⟨A1, k1, c1, rfl, b1, N1⟩, B⟩
 have HB1 := η ((((HB0.out.alloc HB0.out.size _).alloc (HB0.out.alloc HB0.out.size _).size _).alloc ((HB0.out.alloc HB0.out.size _).alloc (HB0.out.alloc HB0.out.size _).size _).size _).trans (B.mono (((HB0.out.alloc HB0.out.size _).alloc (HB0.out.alloc HB0.out.size _).size _).alloc ((HB0.out.alloc HB0.out.size _).alloc (HB0.out.alloc HB0.out.size _).size _).size _).size))
 clear B  HB0
 clear N1
 go_wp2_with fail
 go_ret
 exact ⟨rfl, HB1.out⟩
theorem isIP {w : World} {A : Option Addr} {n c : Nat} {f g : Nat → Int} (h : Pts w A n c f g) {i j k : Nat} (hi : i < n) (hj : j < n) (hk : k < n) : P3 (f i) (g i) (f j) (g j) (f k) (g k) :=
 ⟨(h.isi i hi).1, (h.isi i hi).2, (h.isi j hj).1, (h.isi j hj).2, (h.isi k hk).1, (h.isi k hk).2⟩
theorem Zit {w : World} {A : Option Addr} {n c : Nat} {f g : Nat → Int} (h : Pts w A n c f g) {i j : Nat} {x y : Int} (hi : i < n) (hj : j < n) (hx : IsI x) (hy : IsI y) : P3 (f i) (g i) (f j) (g j) x y :=
 ⟨(h.isi i hi).1, (h.isi i hi).2, (h.isi j hj).1, (h.isi j hj).2, hx, hy⟩
theorem Pts.c6 {w : World} {A : Option Addr} {n c : Nat} {f g : Nat → Int} (h : Pts w A n c f g) (hn : 3 ≤ n) : ∃ b off, A = some ⟨b, off, none⟩ ∧ C6 w b off (f 0) (g 0) (f 1) (g 1) (f 2) (g 2) := by
 obtain ⟨b, off, e, hlt, hc⟩ := h.at_ (by omega)
 exact ⟨b, off, e, hlt, (hc 0 (by omega)).1, (hc 0 (by omega)).2, (hc 1 (by omega)).1, (hc 1 (by omega)).2, (hc 2 (by omega)).1, (hc 2 (by omega)).2⟩
theorem Pts.one {w : World} {b off n c : Nat} {f g : Nat → Int} (h : Pts w (some ⟨b, off, none⟩) n c f g) {i : Nat} (hi : i < n) : Pt1 w b (off + i * 2) (f i) (g i) := by
 obtain ⟨b', off', e, hlt, hc⟩ := h.at_ (by omega)
 cases e
 exact ⟨hlt, (hc i hi).1, (hc i hi).2⟩
theorem Pts.some {w : World} {A : Option Addr} {n c : Nat} {f g : Nat → Int} (h : Pts w A n c f g) (hn : 0 < n) : ∃ b off, A = some ⟨b, off, none⟩ := by
 obtain ⟨b, off, e, _⟩ := h.at_ hn; exact ⟨b, off, e⟩
theorem ZaE (A : Option Addr) (n c : Nat) (f g : Nat → Int) (w : World) (hT : TabM w) (hp : Pts w A n c f g) :
  Calls Tryz.prog 171 #[.slice A n c] w fun e w' => e = .returned (.int .i64 (ori f g n)) ∧ Below w.heap.size w w' := by
 by_cases hin : inP n
 ·have hn3 := hin.1; have hn64 := hin.2
  have q1 : ¬ ((n : Int) < 3) := by omega
  have q2 : ¬ ((64 : Int) < n) := by omega
  obtain ⟨b, off, rfl, hx⟩ := hp.c6 hn3
  have hp3 := isIP hp (i := 0) (j := 1) (k := 2) (by omega) (by omega) (by omega)
  rw [Zhc hin]
  have hm := Nat.le_trans hp.cap hp.max
  have i0 : 0 < n := by omega
  have i1 : (1 : Int) < n := by omega
  have i2 : (2 : Int) < n := by omega
  clear hp
  have HB0 := η (Below.refl w.heap.size w)
  have FT := η hT
  have FY := η hx
  clear hT hx
  go_enter Tryz.func171, Tryz.ntmps171
  go_wp2_with fail
  have RB0 := η (Je w)
  have QF0 := η (show ∀ w', Below w.heap.size w w' → w'.cell? ⟨b, off, none⟩ = some (.int .i64 (f 0)) ∧ w'.cell? ⟨b, off + 1, none⟩ = some (.int .i64 (g 0)) ∧ w'.cell? ⟨b, off + 2, none⟩ = some (.int .i64 (f 1)) ∧ w'.cell? ⟨b, off + 3, none⟩ = some (.int .i64 (g 1)) ∧ w'.cell? ⟨b, off + 4, none⟩ = some (.int .i64 (f 2)) ∧ w'.cell? ⟨b, off + 5, none⟩ = some (.int .i64 (g 2)) from fun w' hb => ⟨(FY.out.below hb ν).c0, (FY.out.below hb ν).c1, (FY.out.below hb ν).c2, (FY.out.below hb ν).c3, (FY.out.below hb ν).c4, (FY.out.below hb ν).c5⟩)
  refine wp_region_held_drew (S := fun w' => w'.cell? ⟨b, off, none⟩ = some (.int .i64 (f 0)) ∧ w'.cell? ⟨b, off + 1, none⟩ = some (.int .i64 (g 0)) ∧ w'.cell? ⟨b, off + 2, none⟩ = some (.int .i64 (f 1)) ∧ w'.cell? ⟨b, off + 3, none⟩ = some (.int .i64 (g 1)) ∧ w'.cell? ⟨b, off + 4, none⟩ = some (.int .i64 (f 2)) ∧ w'.cell? ⟨b, off + 5, none⟩ = some (.int .i64 (g 2))) (by kernel_rfl) (QF0.out _ RB0.out) (fun hHeld => ?_)
  refine tk 0 hHeld ?_
  refine tk 1 hHeld ?_
  refine tk 2 hHeld ?_
  refine tk 3 hHeld ?_
  refine tk 4 hHeld ?_
  refine tk 5 hHeld ?_
  refine tk 6 hHeld ?_
  refine tk 7 hHeld ?_
  refine tk 8 hHeld ?_
  refine cl 9 (fun K hK => ?_)
  go_simp
  refine (JQ _ _ _ _ _ _ hp3 _ (FT.out.below RB0.out ν)).mono ?_
  rintro e w1 ⟨rfl, B⟩
  have RB1 := η (RB0.out.trans (B.mono RB0.out.size))
  clear B
  go_wp2_with fail
  refine hK.out _ _ (QF0.out _ RB1.out) (fun hHeld1 => ?_)
  clear hK K hHeld; have hHeld := hHeld1; clear hHeld1
  try simp only [Act.put, List.setIfInBounds_toArray, List.set_cons_zero, List.set_cons_succ]
  refine tk 10 hHeld ?_
  refine wpAnyH_done (by kernel_rfl) ?_ _
  have FT_1 := η (FT.out.below RB1.out ν)
  have FY_1 := η (FY.out.below RB1.out ν)
  have HB1 := η (HB0.out.trans (RB1.out.mono HB0.out.size))
  clear hHeld HB0 FT FY
  go_wp2_with fail
  go_ret
  exact ⟨rfl, HB1.out⟩
 ·rw [ZdJ hin]
  have hm := Nat.le_trans hp.cap hp.max
  unfold inP at hin
  rcases (by omega : n < 3 ∨ (3 ≤ n ∧ 64 < n)) with h | ⟨h2, h⟩
  ·have q1 : (n : Int) < 3 := by omega
   go_enter Tryz.func171, Tryz.ntmps171
   go_wp2_with fail
   go_ret
   exact ⟨rfl, Below.refl _ _⟩
  ·have q1 : ¬ ((n : Int) < 3) := by omega
   have q2 : (64 : Int) < n := by omega
   go_enter Tryz.func171, Tryz.ntmps171
   go_wp2_with fail
   go_ret
   exact ⟨rfl, Below.refl _ _⟩
set_option maxHeartbeats 1000000 in
theorem ZaL (A : Option Addr) (n c : Nat) (hn : n ≤ maxLen) (w : World) :
  Calls Tryz.prog 95 #[.slice A n c] w fun e w' => e = .returned (.bool (decide (inP n))) ∧ Below w.heap.size w w' := by
 by_cases hin : inP n
 ·have q1 : (3 : Int) ≤ n := by have := hin.1; omega
  have q2 : (n : Int) ≤ 64 := by have := hin.2; omega
  rw [show decide (inP n) = true from by simpa using hin]
  go_enter Tryz.func95, Tryz.ntmps95
  go_wp2_with fail
  go_ret
  exact ⟨rfl, Below.refl _ _⟩
 ·rw [show decide (inP n) = false from by simpa using hin]
  unfold inP at hin
  rcases (by omega : n < 3 ∨ (3 ≤ n ∧ 64 < n)) with h | ⟨h2, h⟩
  ·have q1 : ¬ ((3 : Int) ≤ n) := by omega
   go_enter Tryz.func95, Tryz.ntmps95
   go_wp2_with fail
   go_ret
   exact ⟨rfl, Below.refl _ _⟩
  ·have q1 : (3 : Int) ≤ n := by omega
   have q2 : ¬ ((n : Int) ≤ 64) := by omega
   go_enter Tryz.func95, Tryz.ntmps95
   go_wp2_with fail
   go_ret
   exact ⟨rfl, Below.refl _ _⟩
theorem ZaY (A : Option Addr) (n c : Nat) (f g : Nat → Int) (w : World) (hp : Pts w A n c f g) :
  Calls Tryz.prog 96 #[.slice A n c] w fun e w' => e = .returned (.int .i64 (ori f g n)) ∧ Below w.heap.size w w' := by
 by_cases hin : inP n
 ·have hn3 := hin.1; have hn64 := hin.2
  have q1 : ¬ ((n : Int) < 3) := by omega
  have q2 : ¬ ((64 : Int) < n) := by omega
  obtain ⟨b, off, rfl, hx⟩ := hp.c6 hn3
  have hp3 := isIP hp (i := 0) (j := 1) (k := 2) (by omega) (by omega) (by omega)
  rw [Zhc hin]
  have hm := Nat.le_trans hp.cap hp.max
  have i0 : 0 < n := by omega
  have i1 : (1 : Int) < n := by omega
  have i2 : (2 : Int) < n := by omega
  clear hp
  have HB0 := η (Below.refl w.heap.size w)
  have FY := η hx
  clear hx
  go_enter Tryz.func96, Tryz.ntmps96
  go_wp2_with fail
  refine (ZaL _ n c hm _).mono ?_
  rintro e w1 ⟨rfl, B⟩
  have HB1 := η (HB0.out.trans (B.mono HB0.out.size))
  have FY_1 := η (FY.out.below B ν)
  clear B  HB0 FY
  rw [show decide (inP n) = true from by simpa using hin]
  go_wp2_with fail
  have RB1 := η (Je w1)
  have QF1 := η (show ∀ w', Below w1.heap.size w1 w' → w'.cell? ⟨b, off, none⟩ = some (.int .i64 (f 0)) ∧ w'.cell? ⟨b, off + 1, none⟩ = some (.int .i64 (g 0)) ∧ w'.cell? ⟨b, off + 2, none⟩ = some (.int .i64 (f 1)) ∧ w'.cell? ⟨b, off + 3, none⟩ = some (.int .i64 (g 1)) ∧ w'.cell? ⟨b, off + 4, none⟩ = some (.int .i64 (f 2)) ∧ w'.cell? ⟨b, off + 5, none⟩ = some (.int .i64 (g 2)) from fun w' hb => ⟨(FY_1.out.below hb ν).c0, (FY_1.out.below hb ν).c1, (FY_1.out.below hb ν).c2, (FY_1.out.below hb ν).c3, (FY_1.out.below hb ν).c4, (FY_1.out.below hb ν).c5⟩)
  refine wp_region_held_drew (S := fun w' => w'.cell? ⟨b, off, none⟩ = some (.int .i64 (f 0)) ∧ w'.cell? ⟨b, off + 1, none⟩ = some (.int .i64 (g 0)) ∧ w'.cell? ⟨b, off + 2, none⟩ = some (.int .i64 (f 1)) ∧ w'.cell? ⟨b, off + 3, none⟩ = some (.int .i64 (g 1)) ∧ w'.cell? ⟨b, off + 4, none⟩ = some (.int .i64 (f 2)) ∧ w'.cell? ⟨b, off + 5, none⟩ = some (.int .i64 (g 2))) (by kernel_rfl) (QF1.out _ RB1.out) (fun hHeld => ?_)
  refine tk 0 hHeld ?_
  refine tk 1 hHeld ?_
  refine tk 2 hHeld ?_
  refine tk 3 hHeld ?_
  refine tk 4 hHeld ?_
  refine tk 5 hHeld ?_
  refine tk 6 hHeld ?_
  refine tk 7 hHeld ?_
  refine tk 8 hHeld ?_
  refine cl 9 (fun K hK => ?_)
  go_simp
  refine (Zbn _ _ _ _ _ _ hp3 _).mono ?_
  rintro e w2 ⟨rfl, B⟩
  have RB2 := η (RB1.out.trans (B.mono RB1.out.size))
  clear B
  go_wp2_with fail
  refine hK.out _ _ (QF1.out _ RB2.out) (fun hHeld2 => ?_)
  clear hK K hHeld; have hHeld := hHeld2; clear hHeld2
  try simp only [Act.put, List.setIfInBounds_toArray, List.set_cons_zero, List.set_cons_succ]
  refine tk 10 hHeld ?_
  refine wpAnyH_done (by kernel_rfl) ?_ _
  have FY_2 := η (FY_1.out.below RB2.out ν)
  have HB2 := η (HB1.out.trans (RB2.out.mono HB1.out.size))
  clear hHeld HB1 FY_1
  go_wp2_with fail
  go_ret
  exact ⟨rfl, HB2.out⟩
 ·rw [ZdJ hin]
  have hm := Nat.le_trans hp.cap hp.max
  have HB0 := η (Below.refl w.heap.size w)
  go_enter Tryz.func96, Tryz.ntmps96
  go_wp2_with fail
  refine (ZaL _ n c hm _).mono ?_
  rintro e w1 ⟨rfl, B⟩
  have HB1 := η (HB0.out.trans (B.mono HB0.out.size))
  clear B  HB0
  rw [show decide (inP n) = false from by simpa using hin]
  go_wp2_with fail
  go_ret
  exact ⟨rfl, HB1.out⟩
theorem Ze8 (a b : Int) (ha : IsW a) (hb : IsW b) (w : World) :
  Calls Tryz.prog 167 #[.int .u64 a, .int .u64 b] w fun e w' => e = .returned (.int .u64 (msk (decide (a < b)))) ∧ w = w' := by
 have h := Zjp ha hb
 have hna : IsW (18446744073709551615 - a) := by unfold IsW at *; omega
 have hx := Zd6 ha hb
 have hnx : IsW (18446744073709551615 - bits .xor .u64 a b) := by unfold IsW at *; omega
 have h3 := or_w (ZeL hna hb) (ZeL hnx (Zay (a - b)))
 have hn : IsW (bits .or .u64 (bits .and .u64 (18446744073709551615 - a) b) (bits .and .u64 (18446744073709551615 - bits .xor .u64 a b) (lo (a - b))) / 9223372036854775808) := by unfold IsW at h3 ⊢; omega
 have e : msk (decide (a < b)) = msk (decide (bits .or .u64 (bits .and .u64 (18446744073709551615 - a) b) (bits .and .u64 (18446744073709551615 - bits .xor .u64 a b) (lo (a - b))) / 9223372036854775808 % 2 = 1)) := by
  rw [h]; by_cases hab : a < b <;> simp [hab]
 rw [e]
 have HN := η hn; have HA := η ha; have HX := η hx
 clear h hna hx hnx h3 hn e ha hb
 have hsg : IntKind.u64.signed = false := rfl
 go_enter Tryz.func167, Tryz.ntmps167
 go_wp2_with fail
 simp only [wrapU]
 rw [Zgr HA.out, Zgr HX.out]
 refine (ZaJ _ HN.out _).mono ?_
 rintro e w' ⟨rfl, rfl⟩
 go_wp2_with fail
 go_ret
 exact ⟨rfl, rfl⟩
theorem Zao (a : Int) (ha : IsI a) (w : World) :
  Calls Tryz.prog 153 #[.int .i64 a] w fun e w' => e = .returned (.int .u64 (msk (decide (a < 0)))) ∧ w = w' := by
 go_enter Tryz.func153, Tryz.ntmps153
 go_wp2
 go_ret
 refine ⟨ret1 ?_, rfl⟩
 simp only [wrapU]
 unfold IsI at ha; unfold lo msk
 by_cases h : a < 0 <;> simp [h] <;> omega
theorem Zi2 (w : World) : Calls Tryz.prog 101 #[.int .u64 1] w fun e w' => e = .returned (.int .u64 (msk true)) ∧ w = w' := ZaJ 1 (by unfold IsW; omega) w
end Go.Proofs.YtjdiilkljgljkaaGreatDoor
namespace Go.Proofs.YtjdiilkljgljkaaGreatDoor
set_option linter.unusedVariables false
set_option linter.unusedSimpArgs false
open Go.RowKit Wd Go.Shelf
attribute [local go_sem] Oper.semAt_some
theorem JJ {W W' : World} {row : Option Nat} {b B : Nat} {cs : Array Value} {t : TypeId} (h : Bx W b cs t) (hg : W.grownBy W' row) (hr : ∀ r, row = some r → B ≤ r ∧ ∃ o : Obj, W.heap[r]? = some o ∧ o.isCells = false) : Bx W' b cs t :=
 (hg.block b h.lt (fun e => by obtain ⟨_, o, ho, hc⟩ := hr b e.symm; rw [show W.heap[b]? = _ from h] at ho; cases ho; cases hc)).trans h
theorem ZbU {m : Nat} {r W W' : World} (h : Below m r W) (h' : Below m r W') (hs : W.heap.size ≤ W'.heap.size) : Below m W W' :=
 ⟨h'.os.trans h.os.symm, h'.tape.trans h.tape.symm, h'.output.trans h.output.symm, hs, fun k hk => (h'.block k hk).trans (h.block k hk).symm⟩
theorem Zal {W W' : World} (h : Below W.heap.size W W') : KeepsOthers W W' :=
 ⟨h.size, fun k o hk _ => (h.block k (Array.getElem?_eq_some_iff.1 hk).1).trans hk⟩
theorem ZbH (a b : Bool) : bits .or .u64 (msk a) (msk b) = msk (a || b) := by cases a <;> cases b <;> rfl
theorem and_msk (a b : Bool) : bits .and .u64 (msk a) (msk b) = msk (a && b) := by cases a <;> cases b <;> rfl
theorem wu0 {x : Int} (h : x = -1 ∨ x = 0 ∨ x = 1) : decide (IntKind.u64.wrap x = 0) = decide (x = 0) := by
 rcases h with rfl | rfl | rfl <;> rfl
def JX (q : Nat → Int) {n : Nat} (pre : List (Fin n)) : Bool × Bool := pre.foldl (fun (p : Bool × Bool) (i : Fin n) => ((if (i : Nat) = 0 then false else p.1) || decide (q (i : Nat) < 0), p.2 || decide (q (i : Nat) = 0))) (true, false)
theorem ZbV (q : Nat → Int) {n : Nat} (pre : List (Fin n)) (i : Fin n) : JX q (pre ++ [i]) = ((if (i : Nat) = 0 then false else (JX q pre).1) || decide (q i < 0), (JX q pre).2 || decide (q i = 0)) := by
 unfold JX; rw [List.foldl_append]; rfl
theorem Ze9 (q : Nat → Int) {n : Nat} : ∀ k, k < n → JX q (fup n (k + 1)) = (anyB (fun i => decide (q i < 0)) (k + 1), anyB (fun i => decide (q i = 0)) (k + 1))
 | 0, h => by rw [ZaK h, ZbV]; rfl
 | k + 1, h => by
  rw [ZaK h, ZbV, Ze9 q k (by omega)]
  simp [anyB]
theorem Zhe (f g : Nat → Int) (n : Nat) (x y : Int) : sgnM (JX (Jm f g n x y) (eds n)).1 (JX (Jm f g n x y) (eds n)).2 = locP f g n x y := by
 unfold eds locP
 by_cases h : inP n
 ·have h3 := h.1
  rw [if_pos h, if_pos h]
  have := Ze9 (Jm f g n x y) (n := n) (n - 1) (by omega)
  rw [show n - 1 + 1 = n by omega] at this
  rw [this]
 ·rw [if_neg h, if_neg h]; rfl
set_option maxRecDepth 100000 in
set_option maxHeartbeats 8000000 in
theorem ZdK (A : Option Addr) (n c : Nat) (f g : Nat → Int) (x y : Int) (hx : IsI x) (hy : IsI y) (w : World) (hT : TabM w) (hp : Pts w A n c f g) :
  Calls Tryz.prog 162 #[.pointer none, .slice A n c, .agg #[.int .i64 x, .int .i64 y]] w fun e w' => e = .returned (.int .i64 (locP f g n x y)) ∧ Below w.heap.size w w' := by
 have hm := Nat.le_trans hp.cap hp.max
 have FT := η hT; have FX := η hp; clear hT hp
 have HB0 := η (Below.refl w.heap.size w)
 refine (callsIn_wide (n := 8)).1 ?_
 refine callsIn_of_wp_marks Tryz.func162 rfl trivial ?_ rfl
 simp only [Tryz.ntmps162, List.size_toArray, List.length_cons, List.length_nil, Nat.reduceAdd, Nat.reduceSub, Array.replicate_succ, Array.replicate_zero, List.push_toArray, List.append_toArray, List.nil_append, List.cons_append]
 gi_wp2_with fail
 have B : Below w.heap.size w ((w.alloc (.cells #[.pointer none] 98)).alloc (.cells #[.int .i64 x, .int .i64 y] 23)) := ((HB0.out.alloc HB0.out.size _).alloc (HB0.out.alloc HB0.out.size _).size _)
 have C : Below w.heap.size w ((w.alloc (.cells #[.pointer none] 98)).alloc (.cells #[.int .i64 x, .int .i64 y] 23)) := (((Below.refl w.heap.size w).alloc ν _).alloc (by simp; try omega) _)
 have X0 : Bx ((w.alloc (.cells #[.pointer none] 98)).alloc (.cells #[.int .i64 x, .int .i64 y] 23)) (w.heap.size) #[.pointer none] 98 := by simpa using ((Bx.new w #[.pointer none] 98).alloc _)
 have X1 : Bx ((w.alloc (.cells #[.pointer none] 98)).alloc (.cells #[.int .i64 x, .int .i64 y] 23)) (w.heap.size + 1) #[.int .i64 x, .int .i64 y] 23 := by simpa using (Bx.new (w.alloc (.cells #[.pointer none] 98)) #[.int .i64 x, .int .i64 y] 23)
 have FT_1 := η (FT.out.below C ν)
 have FX_1 := η (FX.out.below C ν)
 have HB1 := η B
 have FN_1 := η X0
 have FP_1 := η X1
 clear B C X0 X1 HB0 FT FX
 generalize ((w.alloc (.cells #[.pointer none] 98)).alloc (.cells #[.int .i64 x, .int .i64 y] 23)) = w1 at *
 skip
 try refine ⟨trivial, ?_⟩
 refine CallsIn.mono (n := _) (callsIn_wide.2 (ZaE _ n c f g _ FT_1.out FX_1.out)) ?_
 rintro e w2 ⟨rfl, B⟩
 have HB2 := η (HB1.out.trans (B.mono HB1.out.size))
 have FT_2 := η (FT_1.out.below B ν)
 have FX_2 := η (FX_1.out.below B ν)
 have FN_2 := η (FN_1.out.below B ν)
 have FP_2 := η (FP_1.out.below B ν)
 clear B  HB1 FT_1 FX_1 FN_1 FP_1
 gi_wp2_with fail
 have B : Below w.heap.size w (w2.alloc (.cells #[.int .i64 (ori f g n)] 2)) := (HB2.out.alloc HB2.out.size _)
 have C : Below w2.heap.size w2 (w2.alloc (.cells #[.int .i64 (ori f g n)] 2)) := ((Below.refl w2.heap.size w2).alloc ν _)
 have X0 : Bx (w2.alloc (.cells #[.int .i64 (ori f g n)] 2)) (w2.heap.size) #[.int .i64 (ori f g n)] 2 := by simpa using (Bx.new w2 #[.int .i64 (ori f g n)] 2)
 have FT_3 := η (FT_2.out.below C ν)
 have FX_3 := η (FX_2.out.below C ν)
 have FN_3 := η (FN_2.out.below C ν)
 have FP_3 := η (FP_2.out.below C ν)
 have HB3 := η B
 have FS_3 := η X0
 clear B C X0 HB2 FT_2 FX_2 FN_2 FP_2
 generalize (w2.alloc (.cells #[.int .i64 (ori f g n)] 2)) = w3 at *
 skip
 try refine ⟨trivial, ?_⟩
 refine CallsIn.mono (n := _) (callsIn_wide.2 (ZaJ 1 (by unfold IsW; omega) _)) ?_
 rintro e w4 ⟨rfl, rfl⟩
 rw [show decide ((1 : Int) % 2 = 1) = true from rfl]
 gi_wp2_with fail
 try refine ⟨trivial, ?_⟩
 refine CallsIn.mono (n := _) (callsIn_wide.2 (Zc1 A n c _)) ?_
 rintro e w5 ⟨rfl, rfl⟩
 gi_wp2_with fail
 have HSZ := η (show (((w3.alloc (.cells #[.int .u64 (msk true)] 61)).alloc (.cells #[.int .u64 0] 61)).alloc (.cells #[.slice A n c] 29)).heap.size = w3.heap.size + 1 + 1 + 1 from by simp)
 have C0 := η (show Below w3.heap.size w3 (((w3.alloc (.cells #[.int .u64 (msk true)] 61)).alloc (.cells #[.int .u64 0] 61)).alloc (.cells #[.slice A n c] 29)) from J8 (J8 (J8 J0)))
 have BO := η (show Bx (((w3.alloc (.cells #[.int .u64 (msk true)] 61)).alloc (.cells #[.int .u64 0] 61)).alloc (.cells #[.slice A n c] 29)) w3.heap.size #[.int .u64 (msk (JX (Jm f g n x y) ([] : List (Fin n))).1)] 61 from ((Bx.new w3 _ _).alloc _).alloc _)
 have BD := η (show Bx (((w3.alloc (.cells #[.int .u64 (msk true)] 61)).alloc (.cells #[.int .u64 0] 61)).alloc (.cells #[.slice A n c] 29)) (w3.heap.size + 1) #[.int .u64 (msk (JX (Jm f g n x y) ([] : List (Fin n))).2)] 61 from (Jb (by simp)).alloc _)
 have BV := η (show Bx (((w3.alloc (.cells #[.int .u64 (msk true)] 61)).alloc (.cells #[.int .u64 0] 61)).alloc (.cells #[.slice A n c] 29)) (w3.heap.size + 1 + 1) #[.slice A n c] 29 from Jb (by simp))
 obtain ⟨W0, hW0⟩ : ∃ W0, (((w3.alloc (.cells #[.int .u64 (msk true)] 61)).alloc (.cells #[.int .u64 0] 61)).alloc (.cells #[.slice A n c] 29)) = W0 := ⟨_, rfl⟩
 rw [hW0] at HSZ C0 BO BD BV ⊢; clear hW0
 refine wpIn_rangeFunc_ownH rfl (by omega) (gf := 175) (lb := #[.pointer (some ⟨w3.heap.size + 1 + 1, 0, none⟩)]) rfl trivial (enters_of Tryz.func175 (by kernel_rfl) rfl)
  (ZcI 7 (w3.heap.size + 1 + 1) (by omega) w3 A n c f g FX_3.out W0 C0.out BV.out)
  KpE.trans (fun W l ob o' hl h hc hw => ⟨belowK_b (w := W0) C0.out.size W l ob o' hl h hc hw, World.putObj_heap_other (by have := HSZ.out; omega)⟩) (Below.refl _ _) (fun _ => rfl)
  (fun (pre : List (Fin n)) W => Bx W w3.heap.size #[.int .u64 (msk (JX (Jm f g n x y) pre).1)] 61 ∧ Bx W (w3.heap.size + 1) #[.int .u64 (msk (JX (Jm f g n x y) pre).2)] 61 ∧ Bx W (w3.heap.size + 1 + 1) #[.slice A n c] 29 ∧ Below w3.heap.size w3 W) (fun _ _ _ => False)
  (fun s X Y row hs hg hr => ⟨JJ hs.1 hg hr, JJ hs.2.1 hg hr, JJ hs.2.2.1 hg hr, ownFrom_below (β := Unit) ν C0.out.size () X Y row hs.2.2.2 hg hr⟩)
  (fun _ _ _ _ _ hs _ _ => hs)
  ⟨BO.out, BD.out, BV.out, C0.out⟩
  (fun (x1 : Fin n) a' W => ∃ Be, w3.heap.size + 1 + 1 + 1 ≤ Be ∧ Bx W Be #[.int .i64 ((x1 : Nat) : Int), .int .i64 (((x1 + 1) % n : Nat) : Int), .int .i64 (f x1), .int .i64 (g x1), .int .i64 (f ((x1 + 1) % n)), .int .i64 (g ((x1 + 1) % n))] 245 ∧ a' = { tmps := #[.pointer none, .slice A n c, .agg #[.int .i64 x, .int .i64 y], .pointer (some ⟨w.heap.size, 0, none⟩), undef, .pointer (some ⟨w.heap.size + 1, 0, none⟩), .int .i64 0, .pointer (some ⟨w2.heap.size, 0, none⟩), .pointer (some ⟨w3.heap.size, 0, none⟩), .pointer (some ⟨w3.heap.size + 1, 0, none⟩), .pointer (some ⟨Be, 0, none⟩), undef, .slice A n c, .int .i64 (ori f g n), .int .u64 (msk true), .slice A n c, .func (.func 175) #[] #[.pointer (some ⟨w3.heap.size + 1 + 1, 0, none⟩)], Zbm f g n x1, undef, undef, undef, undef, undef, undef, undef, undef, undef, undef, undef, undef, undef, undef, undef, undef, undef, undef, undef, undef, undef, undef, undef, undef, undef, undef, undef], defers := [] })
  (fun x1 a' _ X Y row hs hg hr => by obtain ⟨Be, h1, h2, h3⟩ := hs; exact ⟨Be, h1, JJ h2 hg hr, h3⟩) ?assign ?body ?done ?stop
 case stop => intro D cc pre W _ _ h _; exact h.elim
 case assign =>
  rintro l pre x1 W K ⟨i1, i2, i3, i4⟩ hK
  have H1 := η i1; have H2 := η i2; have H3 := η i3; have H4 := η i4
  have HK := η hK; clear hK i1 i2 i3 i4
  have hed : Zbm f g n x1 = .agg #[.int .i64 ((x1 : Nat) : Int), .int .i64 (((x1 + 1) % n : Nat) : Int), .int .i64 (f x1), .int .i64 (g x1), .int .i64 (f ((x1 + 1) % n)), .int .i64 (g ((x1 + 1) % n))] := rfl
  gi_wp2_with fail
  exact HK.out _ _ ((KeepsOthers.alloc _ _).from _) ⟨(Below.refl _ _).alloc H4.out.size _, Below.heap_alloc _ _ _ H3.out.lt⟩ ⟨H1.out.alloc _, H2.out.alloc _, H3.out.alloc _, H4.out.alloc H4.out.size _⟩ ⟨W.heap.size, H3.out.lt, Bx.new _ _ _, rfl⟩
 case body =>
  rintro l pre ⟨k, hk1⟩ a' W hl - ⟨i1, i2, i3, i4⟩ ⟨Be, hBe, bE, rfl⟩ hlen
  have hk2 : (k + 1) % n < n := Nat.mod_lt _ (by omega)
  have hp3 := Zit FX_3.out hk1 hk2 hx hy
  have hsd := Zbu f g n x y k
  have hss := η (ZbV (Jm f g n x y) pre ⟨k, hk1⟩)
  have hpr : wrap64 (ori f g n * sg (det (f k) (g k) (f ((k + 1) % n)) (g ((k + 1) % n)) x y)) = Jm f g n x y k := by rw [show ori f g n * sg (det (f k) (g k) (f ((k + 1) % n)) (g ((k + 1) % n)) x y) = Jm f g n x y k from rfl, ← IntWalk.i64_left, IntKind.wrap_i64]; omega
  have hpr2 : IntKind.i64.wrap (ori f g n * sg (det (f k) (g k) (f ((k + 1) % n)) (g ((k + 1) % n)) x y)) = Jm f g n x y k := by rw [show ori f g n * sg (det (f k) (g k) (f ((k + 1) % n)) (g ((k + 1) % n)) x y) = Jm f g n x y k from rfl, IntKind.wrap_i64]; omega
  have H5 : Hid (Bx W Be #[.int .i64 (k : Int), .int .i64 (((k + 1) % n : Nat) : Int), .int .i64 (f k), .int .i64 (g k), .int .i64 (f ((k + 1) % n)), .int .i64 (g ((k + 1) % n))] 245) := η bE
  have H1 := η i1; have H2 := η i2; have H3 := η i3; have H4 := η i4; have HBE := η hBe; clear i1 i2 i3 i4 bE hBe hl hlen
  have KF := η (KeepsFrom.refl W0.heap.size W)
  generalize hK2 : (k + 1) % n = k2 at H5 hk2 hp3 hpr hpr2
  simp only [show ((⟨k, hk1⟩ : Fin n) : Nat) = k from rfl] at hss
  generalize Jm f g n x y k = sd at hsd hpr hpr2 hss
  generalize (JX (Jm f g n x y) pre).1 = o0 at H1 hss
  generalize (JX (Jm f g n x y) pre).2 = d0 at H2 hss
  have HP3 := η hp3; have HPR := η hpr; have HPS := η hpr2
  have HI := η (show IsI sd by unfold IsI; omega)
  have HW := η (wu0 hsd)
  have hsz1 : w.heap.size + 1 < w3.heap.size := by have := FP_3.out.lt; omega
  have n1 : w.heap.size ≠ w3.heap.size := by omega
  have n2 : w3.heap.size ≠ w.heap.size := by omega
  have n3 : Be ≠ w3.heap.size := by have := HBE.out; omega
  have n4 : w3.heap.size ≠ Be := by have := HBE.out; omega
  clear hp3 hpr hpr2 hsz1 hsd
  have H4' := H4
  have H3' := H3
  by_cases hk0 : k = 0
  ·have HK0 := η hk0; clear hk0
   have HOR := η (show bits .or .u64 (msk false) (msk (decide (sd < 0))) = msk (decide (sd < 0)) from ZbH _ _); have HOS := η (ZbH d0 (decide (sd = 0)))
   have zE := H5.out.cell 0 (v := .int .i64 (k : Int)) rfl; have zN := (FN_3.out.below H4.out ν).cell 0 (v := .pointer none) rfl
   have hk0' : (k : Int) = 0 := by have := HK0.out; omega
   have zO := H1.out.cell 0 (v := .int .u64 (msk o0)) rfl; have zF := H1.out.free 0; have zL := H1.out.lt
   gi_wp2_with fail
   clear zE zN hk0' zO zF zL
   have C21 := η (show Below w3.heap.size w3 (W.setCell ⟨w3.heap.size, 0, none⟩ (.int .u64 0)) from H4.out.setCell (p := ⟨w3.heap.size, 0, none⟩) ν _); have K21 := η (show KeepsFrom _ _ (W.setCell ⟨w3.heap.size, 0, none⟩ (.int .u64 0)) from KF.out.trans ((KeepsOthers.setCell _ _ _).from _))
   clear H4 KF
   have BO21 := η (show Bx (W.setCell ⟨w3.heap.size, 0, none⟩ (.int .u64 0)) (w3.heap.size) #[.int .u64 0] 61 from H1.out.set 0 _)
   clear H1
   have BD21 := η (show Bx (W.setCell ⟨w3.heap.size, 0, none⟩ (.int .u64 0)) (w3.heap.size + 1) #[.int .u64 (msk d0)] 61 from H2.out.other _ (show w3.heap.size + 1 ≠ w3.heap.size from by have h1 := HSZ.out; have h2 := HBE.out; omega))
   clear H2
   have BV21 := η (show Bx (W.setCell ⟨w3.heap.size, 0, none⟩ (.int .u64 0)) (w3.heap.size + 1 + 1) #[.slice A n c] 29 from H3.out.other _ (show w3.heap.size + 1 + 1 ≠ w3.heap.size from by have h1 := HSZ.out; have h2 := HBE.out; omega))
   clear H3
   have BE21 := η (show Bx (W.setCell ⟨w3.heap.size, 0, none⟩ (.int .u64 0)) (Be) #[.int .i64 (k : Int), .int .i64 (k2 : Int), .int .i64 (f k), .int .i64 (g k), .int .i64 (f k2), .int .i64 (g k2)] 245 from H5.out.other _ (show Be ≠ w3.heap.size from by have h1 := HSZ.out; have h2 := HBE.out; omega))
   clear H5
   generalize (W.setCell ⟨w3.heap.size, 0, none⟩ (.int .u64 0)) = w21 at *
   have BOm := η (show Bx w21 w3.heap.size #[.int .u64 (msk false)] 61 from BO21.out); clear BO21
   have FT_21 := η (FT_3.out.below C21.out ν)
   have FX_21 := η (FX_3.out.below C21.out ν)
   have FN_21 := η (FN_3.out.below C21.out ν)
   have FP_21 := η (FP_3.out.below C21.out ν)
   have FS_21 := η (FS_3.out.below C21.out ν)
   have FO_21 := BOm
   have FD_21 := BD21
   have FV_21 := BV21
   have FE_21 := BE21
   have HS21 := η (Below.refl w21.heap.size w21)
   skip
   try refine ⟨trivial, ?_⟩
   refine CallsIn.mono (n := _) (CallsIn.inRound l (callsIn_wide.2 (Ju _ _ _ _))) ?_
   rintro e w22 ⟨rfl, rfl⟩
   gi_wp2_with fail
   refine wpIn_region_any (by kernel_rfl) ?_
   change wpAnyIn _ _ _ _ _ _ _ _ _ (World.drew _)
   have RB22 := η (Je w21)
   refine Jk (WideF.round l) (fun a b => Below a.heap.size a b) (fun _ => J0) (fun _ _ _ h k => J6 h k) [⟨0, 25, fun z_ _ => z_ = .int .i64 (ori f g n)⟩, ⟨1, 26, fun z_ _ => z_ = .pointer (some ⟨Be, 2, none⟩)⟩, ⟨2, 27, fun z_ _ => z_ = .agg #[.int .i64 (f k), .int .i64 (g k)]⟩, ⟨3, 28, fun z_ _ => z_ = .pointer (some ⟨Be, 4, none⟩)⟩, ⟨4, 29, fun z_ _ => z_ = .agg #[.int .i64 (f k2), .int .i64 (g k2)]⟩, ⟨5, 30, fun z_ _ => z_ = .agg #[.int .i64 x, .int .i64 y]⟩, ⟨6, 31, fun z_ _ => z_ = .int .i64 (sg (det (f k) (g k) (f k2) (g k2) x y))⟩, ⟨7, 32, fun z_ _ => z_ = .int .i64 sd⟩, ⟨8, 11, fun z_ _ => z_ = .int .i64 sd⟩] 9 (by kernel_rfl) ?_ ?_ ?_
   ·refine ⟨?_, ?_, ?_, ?_, ?_, ?_, ?_, ?_, ?_, trivial⟩
    all_goals (intro x w w' hb h; first | exact h | (obtain ⟨b_, h1, h2⟩ := h; exact ⟨b_, h1, h2.below hb ν⟩))
   ·refine ⟨?_, ?_, ?_, ?_, ?_, ?_, ?_, ?_, ?_, trivial⟩
    ·intro a wz K hb ht hd hK
     have hbw := η (J6 RB22.out hb); clear hb
     have hx7 := (ht 7 rfl).trans rfl
     have es7 : a.tmps.getD 7 undef = _ := J7 hx7; clear hx7
     clear ht hd
     have zc0 := (FS_21.out.below hbw.out ν).cell 0 (v := .int .i64 (ori f g n)) rfl
     have HK := η hK; clear hK
     refine oP (fun K' HK' => ?_)
     go_simp
     exact HK'.out _ _ (HK.out _ _ J0 rfl)
    ·intro a wz K hb ht hd hK
     have hbw := η (J6 RB22.out hb); clear hb
     have hx10 := (ht 10 rfl).trans rfl
     have es10 : a.tmps.getD 10 undef = _ := J7 hx10; clear hx10
     clear ht hd
     have HK := η hK; clear hK
     refine oP (fun K' HK' => ?_)
     go_simp
     exact HK'.out _ _ (HK.out _ _ J0 rfl)
    ·intro a wz K hb ht hd hK
     have hbw := η (J6 RB22.out hb); clear hb
     obtain ⟨x26, hx26, hp26⟩ := hd 1 _ rfl (by kernel_rfl)
     obtain rfl := hp26
     have es26 : a.tmps.getD 26 undef = _ := J7 hx26; clear hx26
     clear ht hd
     have zc0 := (FE_21.out.below hbw.out ν).cell 2 (v := .int .i64 (f k)) rfl
     have zc1 := (FE_21.out.below hbw.out ν).cell 3 (v := .int .i64 (g k)) rfl
     have HK := η hK; clear hK
     refine oP (fun K' HK' => ?_)
     go_simp
     exact HK'.out _ _ (HK.out _ _ J0 rfl)
    ·intro a wz K hb ht hd hK
     have hbw := η (J6 RB22.out hb); clear hb
     have hx10 := (ht 10 rfl).trans rfl
     have es10 : a.tmps.getD 10 undef = _ := J7 hx10; clear hx10
     clear ht hd
     have HK := η hK; clear hK
     refine oP (fun K' HK' => ?_)
     go_simp
     exact HK'.out _ _ (HK.out _ _ J0 rfl)
    ·intro a wz K hb ht hd hK
     have hbw := η (J6 RB22.out hb); clear hb
     obtain ⟨x28, hx28, hp28⟩ := hd 3 _ rfl (by kernel_rfl)
     obtain rfl := hp28
     have es28 : a.tmps.getD 28 undef = _ := J7 hx28; clear hx28
     clear ht hd
     have zc0 := (FE_21.out.below hbw.out ν).cell 4 (v := .int .i64 (f k2)) rfl
     have zc1 := (FE_21.out.below hbw.out ν).cell 5 (v := .int .i64 (g k2)) rfl
     have HK := η hK; clear hK
     refine oP (fun K' HK' => ?_)
     go_simp
     exact HK'.out _ _ (HK.out _ _ J0 rfl)
    ·intro a wz K hb ht hd hK
     have hbw := η (J6 RB22.out hb); clear hb
     have hx5 := (ht 5 rfl).trans rfl
     have es5 : a.tmps.getD 5 undef = _ := J7 hx5; clear hx5
     clear ht hd
     have zc0 := (FP_21.out.below hbw.out ν).cell 0 (v := .int .i64 x) rfl
     have zc1 := (FP_21.out.below hbw.out ν).cell 1 (v := .int .i64 y) rfl
     have HK := η hK; clear hK
     refine oP (fun K' HK' => ?_)
     go_simp
     exact HK'.out _ _ (HK.out _ _ J0 rfl)
    ·intro a wz K hb ht hd hK
     have hbw := η (J6 RB22.out hb); clear hb
     obtain ⟨x27, hx27, hp27⟩ := hd 2 _ rfl (by kernel_rfl)
     obtain rfl := hp27
     have es27 : a.tmps.getD 27 undef = _ := J7 hx27; clear hx27
     obtain ⟨x29, hx29, hp29⟩ := hd 4 _ rfl (by kernel_rfl)
     obtain rfl := hp29
     have es29 : a.tmps.getD 29 undef = _ := J7 hx29; clear hx29
     obtain ⟨x30, hx30, hp30⟩ := hd 5 _ rfl (by kernel_rfl)
     obtain rfl := hp30
     have es30 : a.tmps.getD 30 undef = _ := J7 hx30; clear hx30
     clear ht hd
     have HK := η hK; clear hK
     refine oP (fun K' HK' => ?_)
     go_simp
     refine (JQ _ _ _ _ _ _ HP3.out _ (FT_21.out.below hbw.out ν)).mono ?_
     rintro e w1 ⟨rfl, B⟩
     go_wp2_with fail
     exact HK'.out _ _ (HK.out _ _ B rfl)
    ·intro a wz K hb ht hd hK
     have hbw := η (J6 RB22.out hb); clear hb
     obtain ⟨x25, hx25, hp25⟩ := hd 0 _ rfl (by kernel_rfl)
     obtain rfl := hp25
     have es25 : a.tmps.getD 25 undef = _ := J7 hx25; clear hx25
     obtain ⟨x31, hx31, hp31⟩ := hd 6 _ rfl (by kernel_rfl)
     obtain rfl := hp31
     have es31 : a.tmps.getD 31 undef = _ := J7 hx31; clear hx31
     clear ht hd
     have HK := η hK; clear hK
     have e1 := HPR.out; have e2 := HPS.out
     refine oP (fun K' HK' => ?_)
     go_simp
     exact HK'.out _ _ (HK.out _ _ J0 rfl)
    ·intro a wz K hb ht hd hK
     have hbw := η (J6 RB22.out hb); clear hb
     obtain ⟨x32, hx32, hp32⟩ := hd 7 _ rfl (by kernel_rfl)
     obtain rfl := hp32
     have es32 : a.tmps.getD 32 undef = _ := J7 hx32; clear hx32
     clear ht hd
     have HK := η hK; clear hK
     refine oP (fun K' HK' => ?_)
     go_simp
     exact HK'.out _ _ (HK.out _ _ J0 rfl)
   intro w23 X hb hv
   simp only [List.foldl_cons, List.foldl_nil, Act.put, List.setIfInBounds_toArray, List.set_cons_zero, List.set_cons_succ, List.toList_toArray, List.drop_succ_cons, List.drop_zero]
   obtain ⟨hv0, hv1, hv2, hv3, hv4, hv5, hv6, hv7, hv8, -⟩ := hv
   have hV0 : (fun z_ _ => z_ = .int .i64 (ori f g n)) (X 25) w23 := hv0; clear hv0; have hv0 := hV0; clear hV0; generalize X 25 = X25 at *
   have hV1 : (fun z_ _ => z_ = .pointer (some ⟨Be, 2, none⟩)) (X 26) w23 := hv1; clear hv1; have hv1 := hV1; clear hV1; generalize X 26 = X26 at *
   have hV2 : (fun z_ _ => z_ = .agg #[.int .i64 (f k), .int .i64 (g k)]) (X 27) w23 := hv2; clear hv2; have hv2 := hV2; clear hV2; generalize X 27 = X27 at *
   have hV3 : (fun z_ _ => z_ = .pointer (some ⟨Be, 4, none⟩)) (X 28) w23 := hv3; clear hv3; have hv3 := hV3; clear hV3; generalize X 28 = X28 at *
   have hV4 : (fun z_ _ => z_ = .agg #[.int .i64 (f k2), .int .i64 (g k2)]) (X 29) w23 := hv4; clear hv4; have hv4 := hV4; clear hV4; generalize X 29 = X29 at *
   have hV5 : (fun z_ _ => z_ = .agg #[.int .i64 x, .int .i64 y]) (X 30) w23 := hv5; clear hv5; have hv5 := hV5; clear hV5; generalize X 30 = X30 at *
   have hV6 : (fun z_ _ => z_ = .int .i64 (sg (det (f k) (g k) (f k2) (g k2) x y))) (X 31) w23 := hv6; clear hv6; have hv6 := hV6; clear hV6; generalize X 31 = X31 at *
   have hV7 : (fun z_ _ => z_ = .int .i64 sd) (X 32) w23 := hv7; clear hv7; have hv7 := hV7; clear hV7; generalize X 32 = X32 at *
   have hV8 : (fun z_ _ => z_ = .int .i64 sd) (X 11) w23 := hv8; clear hv8; have hv8 := hV8; clear hV8; generalize X 11 = X11 at *
   obtain rfl := hv0
   obtain rfl := hv1
   obtain rfl := hv2
   obtain rfl := hv3
   obtain rfl := hv4
   obtain rfl := hv5
   obtain rfl := hv6
   obtain rfl := hv7
   obtain rfl := hv8
   have RC := η (J6 RB22.out hb); clear hb
   have FT_23 := η (FT_21.out.below RC.out ν)
   have FX_23 := η (FX_21.out.below RC.out ν)
   have FN_23 := η (FN_21.out.below RC.out ν)
   have FP_23 := η (FP_21.out.below RC.out ν)
   have FS_23 := η (FS_21.out.below RC.out ν)
   have FO_23 := η (FO_21.out.below RC.out ν)
   have FD_23 := η (FD_21.out.below RC.out ν)
   have FV_23 := η (FV_21.out.below RC.out ν)
   have FE_23 := η (FE_21.out.below RC.out ν)
   have HB23 := η (HS21.out.trans (RC.out.mono HS21.out.size))
   clear HS21 FT_21 FX_21 FN_21 FP_21 FS_21 FO_21 FD_21 FV_21 FE_21 RB22
   gi_wp2_with fail
   refine wpIn_region_any (by kernel_rfl) ?_
   change wpAnyIn _ _ _ _ _ _ _ _ _ (World.drew _)
   have RB23 := η (Je w23)
   refine Jk (WideF.round l) (fun a b => Below a.heap.size a b) (fun _ => J0) (fun _ _ _ h k => J6 h k) [⟨0, 33, fun z_ _ => z_ = .int .u64 (msk false)⟩, ⟨1, 34, fun z_ _ => z_ = .int .i64 sd⟩, ⟨2, 35, fun z_ _ => z_ = .int .u64 (msk (decide (sd < 0)))⟩, ⟨3, 36, fun z_ _ => z_ = .int .u64 (msk (decide (sd < 0)))⟩] 4 (by kernel_rfl) ?_ ?_ ?_
   ·refine ⟨?_, ?_, ?_, ?_, trivial⟩
    all_goals (intro x w w' hb h; first | exact h | (obtain ⟨b_, h1, h2⟩ := h; exact ⟨b_, h1, h2.below hb ν⟩))
   ·refine ⟨?_, ?_, ?_, ?_, trivial⟩
    ·intro a wz K hb ht hd hK
     have hbw := η (J6 RB23.out hb); clear hb
     have hx8 := (ht 8 rfl).trans rfl
     have es8 : a.tmps.getD 8 undef = _ := J7 hx8; clear hx8
     clear ht hd
     have zc0 := (FO_23.out.below hbw.out ν).cell 0 (v := .int .u64 (msk false)) rfl
     have HK := η hK; clear hK
     refine oP (fun K' HK' => ?_)
     go_simp
     exact HK'.out _ _ (HK.out _ _ J0 rfl)
    ·intro a wz K hb ht hd hK
     have hbw := η (J6 RB23.out hb); clear hb
     have hx11 := (ht 11 rfl).trans rfl
     have es11 : a.tmps.getD 11 undef = _ := J7 hx11; clear hx11
     clear ht hd
     have HK := η hK; clear hK
     refine oP (fun K' HK' => ?_)
     go_simp
     exact HK'.out _ _ (HK.out _ _ J0 rfl)
    ·intro a wz K hb ht hd hK
     have hbw := η (J6 RB23.out hb); clear hb
     obtain ⟨x34, hx34, hp34⟩ := hd 1 _ rfl (by kernel_rfl)
     obtain rfl := hp34
     have es34 : a.tmps.getD 34 undef = _ := J7 hx34; clear hx34
     clear ht hd
     have HK := η hK; clear hK
     refine oP (fun K' HK' => ?_)
     go_simp
     refine (Zao _ HI.out _).mono ?_
     rintro e w1 ⟨rfl, rfl⟩
     go_wp2_with fail
     exact HK'.out _ _ (HK.out _ _ J0 rfl)
    ·intro a wz K hb ht hd hK
     have hbw := η (J6 RB23.out hb); clear hb
     obtain ⟨x33, hx33, hp33⟩ := hd 0 _ rfl (by kernel_rfl)
     obtain rfl := hp33
     have es33 : a.tmps.getD 33 undef = _ := J7 hx33; clear hx33
     obtain ⟨x35, hx35, hp35⟩ := hd 2 _ rfl (by kernel_rfl)
     obtain rfl := hp35
     have es35 : a.tmps.getD 35 undef = _ := J7 hx35; clear hx35
     clear ht hd
     have HK := η hK; clear hK
     have e1 := HOR.out
     refine oP (fun K' HK' => ?_)
     go_simp
     exact HK'.out _ _ (HK.out _ _ J0 rfl)
   intro w24 X hb hv
   simp only [List.foldl_cons, List.foldl_nil, Act.put, List.setIfInBounds_toArray, List.set_cons_zero, List.set_cons_succ, List.toList_toArray, List.drop_succ_cons, List.drop_zero]
   obtain ⟨hv0, hv1, hv2, hv3, -⟩ := hv
   have hV0 : (fun z_ _ => z_ = .int .u64 (msk false)) (X 33) w24 := hv0; clear hv0; have hv0 := hV0; clear hV0; generalize X 33 = X33 at *
   have hV1 : (fun z_ _ => z_ = .int .i64 sd) (X 34) w24 := hv1; clear hv1; have hv1 := hV1; clear hV1; generalize X 34 = X34 at *
   have hV2 : (fun z_ _ => z_ = .int .u64 (msk (decide (sd < 0)))) (X 35) w24 := hv2; clear hv2; have hv2 := hV2; clear hV2; generalize X 35 = X35 at *
   have hV3 : (fun z_ _ => z_ = .int .u64 (msk (decide (sd < 0)))) (X 36) w24 := hv3; clear hv3; have hv3 := hV3; clear hV3; generalize X 36 = X36 at *
   obtain rfl := hv0
   obtain rfl := hv1
   obtain rfl := hv2
   obtain rfl := hv3
   have RC := η (J6 RB23.out hb); clear hb
   have FT_24 := η (FT_23.out.below RC.out ν)
   have FX_24 := η (FX_23.out.below RC.out ν)
   have FN_24 := η (FN_23.out.below RC.out ν)
   have FP_24 := η (FP_23.out.below RC.out ν)
   have FS_24 := η (FS_23.out.below RC.out ν)
   have FO_24 := η (FO_23.out.below RC.out ν)
   have FD_24 := η (FD_23.out.below RC.out ν)
   have FV_24 := η (FV_23.out.below RC.out ν)
   have FE_24 := η (FE_23.out.below RC.out ν)
   have HB24 := η (HB23.out.trans (RC.out.mono HB23.out.size))
   clear HB23 FT_23 FX_23 FN_23 FP_23 FS_23 FO_23 FD_23 FV_23 FE_23 RB23
   have C25 := η (C21.out.trans (HB24.out.mono C21.out.size)); have K25 := η (K21.out.trans ((Zal HB24.out).from _))
   clear C21 K21
   have BO25 := FO_24
   clear BOm
   have BD25 := FD_24
   clear BD21
   have BV25 := FV_24
   clear BV21
   have BE25 := FE_24
   clear BE21
   clear HB24 FT_24 FX_24 FN_24 FP_24 FS_24 FO_24 FD_24 FV_24 FE_24
   have zO := BO25.out.cell 0 (v := .int .u64 (msk false)) rfl; have zF := BO25.out.free 0; have zL := BO25.out.lt
   gi_wp2_with fail
   clear zO zF zL
   have C26 := η (show Below w3.heap.size w3 (w24.setCell ⟨w3.heap.size, 0, none⟩ (.int .u64 (msk (decide (sd < 0))))) from C25.out.setCell (p := ⟨w3.heap.size, 0, none⟩) ν _); have K26 := η (show KeepsFrom _ _ (w24.setCell ⟨w3.heap.size, 0, none⟩ (.int .u64 (msk (decide (sd < 0))))) from K25.out.trans ((KeepsOthers.setCell _ _ _).from _))
   clear C25 K25
   have BO26 := η (show Bx (w24.setCell ⟨w3.heap.size, 0, none⟩ (.int .u64 (msk (decide (sd < 0))))) (w3.heap.size) #[.int .u64 (msk (decide (sd < 0)))] 61 from BO25.out.set 0 _)
   clear BO25
   have BD26 := η (show Bx (w24.setCell ⟨w3.heap.size, 0, none⟩ (.int .u64 (msk (decide (sd < 0))))) (w3.heap.size + 1) #[.int .u64 (msk d0)] 61 from BD25.out.other _ (show w3.heap.size + 1 ≠ w3.heap.size from by have h1 := HSZ.out; have h2 := HBE.out; omega))
   clear BD25
   have BV26 := η (show Bx (w24.setCell ⟨w3.heap.size, 0, none⟩ (.int .u64 (msk (decide (sd < 0))))) (w3.heap.size + 1 + 1) #[.slice A n c] 29 from BV25.out.other _ (show w3.heap.size + 1 + 1 ≠ w3.heap.size from by have h1 := HSZ.out; have h2 := HBE.out; omega))
   clear BV25
   have BE26 := η (show Bx (w24.setCell ⟨w3.heap.size, 0, none⟩ (.int .u64 (msk (decide (sd < 0))))) (Be) #[.int .i64 (k : Int), .int .i64 (k2 : Int), .int .i64 (f k), .int .i64 (g k), .int .i64 (f k2), .int .i64 (g k2)] 245 from BE25.out.other _ (show Be ≠ w3.heap.size from by have h1 := HSZ.out; have h2 := HBE.out; omega))
   clear BE25
   generalize (w24.setCell ⟨w3.heap.size, 0, none⟩ (.int .u64 (msk (decide (sd < 0))))) = w26 at *
   have FT_26 := η (FT_3.out.below C26.out ν)
   have FX_26 := η (FX_3.out.below C26.out ν)
   have FN_26 := η (FN_3.out.below C26.out ν)
   have FP_26 := η (FP_3.out.below C26.out ν)
   have FS_26 := η (FS_3.out.below C26.out ν)
   have FO_26 := BO26
   have FD_26 := BD26
   have FV_26 := BV26
   have FE_26 := BE26
   have HS26 := η (Below.refl w26.heap.size w26)
   refine wpIn_region_any (by kernel_rfl) ?_
   change wpAnyIn _ _ _ _ _ _ _ _ _ (World.drew _)
   have RB26 := η (Je w26)
   refine Jk (WideF.round l) (fun a b => Below a.heap.size a b) (fun _ => J0) (fun _ _ _ h k => J6 h k) [⟨0, 37, fun z_ _ => z_ = .int .u64 (msk d0)⟩, ⟨1, 38, fun z_ _ => z_ = .int .i64 sd⟩, ⟨2, 39, fun z_ _ => z_ = .int .u64 (IntKind.u64.wrap sd)⟩, ⟨3, 40, fun z_ _ => z_ = .int .u64 (msk (decide (sd = 0)))⟩, ⟨4, 41, fun z_ _ => z_ = .int .u64 (msk (d0 || decide (sd = 0)))⟩] 5 (by kernel_rfl) ?_ ?_ ?_
   ·refine ⟨?_, ?_, ?_, ?_, ?_, trivial⟩
    all_goals (intro x w w' hb h; first | exact h | (obtain ⟨b_, h1, h2⟩ := h; exact ⟨b_, h1, h2.below hb ν⟩))
   ·refine ⟨?_, ?_, ?_, ?_, ?_, trivial⟩
    ·intro a wz K hb ht hd hK
     have hbw := η (J6 RB26.out hb); clear hb
     have hx9 := (ht 9 rfl).trans rfl
     have es9 : a.tmps.getD 9 undef = _ := J7 hx9; clear hx9
     clear ht hd
     have zc0 := (FD_26.out.below hbw.out ν).cell 0 (v := .int .u64 (msk d0)) rfl
     have HK := η hK; clear hK
     refine oP (fun K' HK' => ?_)
     go_simp
     exact HK'.out _ _ (HK.out _ _ J0 rfl)
    ·intro a wz K hb ht hd hK
     have hbw := η (J6 RB26.out hb); clear hb
     have hx11 := (ht 11 rfl).trans rfl
     have es11 : a.tmps.getD 11 undef = _ := J7 hx11; clear hx11
     clear ht hd
     have HK := η hK; clear hK
     refine oP (fun K' HK' => ?_)
     go_simp
     exact HK'.out _ _ (HK.out _ _ J0 rfl)
    ·intro a wz K hb ht hd hK
     have hbw := η (J6 RB26.out hb); clear hb
     obtain ⟨x38, hx38, hp38⟩ := hd 1 _ rfl (by kernel_rfl)
     obtain rfl := hp38
     have es38 : a.tmps.getD 38 undef = _ := J7 hx38; clear hx38
     clear ht hd
     have HK := η hK; clear hK
     refine oP (fun K' HK' => ?_)
     go_simp
     exact HK'.out _ _ (HK.out _ _ J0 rfl)
    ·intro a wz K hb ht hd hK
     have hbw := η (J6 RB26.out hb); clear hb
     obtain ⟨x39, hx39, hp39⟩ := hd 2 _ rfl (by kernel_rfl)
     obtain rfl := hp39
     have es39 : a.tmps.getD 39 undef = _ := J7 hx39; clear hx39
     clear ht hd
     have HK := η hK; clear hK
     refine oP (fun K' HK' => ?_)
     go_simp
     refine (Zax _ (JO _) _).mono ?_
     rintro e w1 ⟨rfl, rfl⟩
     rw [HW.out]
     go_wp2_with fail
     exact HK'.out _ _ (HK.out _ _ J0 rfl)
    ·intro a wz K hb ht hd hK
     have hbw := η (J6 RB26.out hb); clear hb
     obtain ⟨x37, hx37, hp37⟩ := hd 0 _ rfl (by kernel_rfl)
     obtain rfl := hp37
     have es37 : a.tmps.getD 37 undef = _ := J7 hx37; clear hx37
     obtain ⟨x40, hx40, hp40⟩ := hd 3 _ rfl (by kernel_rfl)
     obtain rfl := hp40
     have es40 : a.tmps.getD 40 undef = _ := J7 hx40; clear hx40
     clear ht hd
     have HK := η hK; clear hK
     have e1 := HOS.out
     refine oP (fun K' HK' => ?_)
     go_simp
     exact HK'.out _ _ (HK.out _ _ J0 rfl)
   intro w27 X hb hv
   simp only [List.foldl_cons, List.foldl_nil, Act.put, List.setIfInBounds_toArray, List.set_cons_zero, List.set_cons_succ, List.toList_toArray, List.drop_succ_cons, List.drop_zero]
   obtain ⟨hv0, hv1, hv2, hv3, hv4, -⟩ := hv
   have hV0 : (fun z_ _ => z_ = .int .u64 (msk d0)) (X 37) w27 := hv0; clear hv0; have hv0 := hV0; clear hV0; generalize X 37 = X37 at *
   have hV1 : (fun z_ _ => z_ = .int .i64 sd) (X 38) w27 := hv1; clear hv1; have hv1 := hV1; clear hV1; generalize X 38 = X38 at *
   have hV2 : (fun z_ _ => z_ = .int .u64 (IntKind.u64.wrap sd)) (X 39) w27 := hv2; clear hv2; have hv2 := hV2; clear hV2; generalize X 39 = X39 at *
   have hV3 : (fun z_ _ => z_ = .int .u64 (msk (decide (sd = 0)))) (X 40) w27 := hv3; clear hv3; have hv3 := hV3; clear hV3; generalize X 40 = X40 at *
   have hV4 : (fun z_ _ => z_ = .int .u64 (msk (d0 || decide (sd = 0)))) (X 41) w27 := hv4; clear hv4; have hv4 := hV4; clear hV4; generalize X 41 = X41 at *
   obtain rfl := hv0
   obtain rfl := hv1
   obtain rfl := hv2
   obtain rfl := hv3
   obtain rfl := hv4
   have RC := η (J6 RB26.out hb); clear hb
   have FT_27 := η (FT_26.out.below RC.out ν)
   have FX_27 := η (FX_26.out.below RC.out ν)
   have FN_27 := η (FN_26.out.below RC.out ν)
   have FP_27 := η (FP_26.out.below RC.out ν)
   have FS_27 := η (FS_26.out.below RC.out ν)
   have FO_27 := η (FO_26.out.below RC.out ν)
   have FD_27 := η (FD_26.out.below RC.out ν)
   have FV_27 := η (FV_26.out.below RC.out ν)
   have FE_27 := η (FE_26.out.below RC.out ν)
   have HB27 := η (HS26.out.trans (RC.out.mono HS26.out.size))
   clear HS26 FT_26 FX_26 FN_26 FP_26 FS_26 FO_26 FD_26 FV_26 FE_26 RB26
   have C28 := η (C26.out.trans (HB27.out.mono C26.out.size)); have K28 := η (K26.out.trans ((Zal HB27.out).from _))
   clear C26 K26
   have BO28 := FO_27
   clear BO26
   have BD28 := FD_27
   clear BD26
   have BV28 := FV_27
   clear BV26
   have BE28 := FE_27
   clear BE26
   clear HB27 FT_27 FX_27 FN_27 FP_27 FS_27 FO_27 FD_27 FV_27 FE_27
   have zO := BD28.out.cell 0 (v := .int .u64 (msk d0)) rfl; have zF := BD28.out.free 0; have zL := BD28.out.lt
   gi_wp2_with fail
   clear zO zF zL
   have C29 := η (show Below w3.heap.size w3 (w27.setCell ⟨w3.heap.size + 1, 0, none⟩ (.int .u64 (msk (d0 || decide (sd = 0))))) from C28.out.setCell (p := ⟨w3.heap.size + 1, 0, none⟩) (Nat.le_add_right _ _) _); have K29 := η (show KeepsFrom _ _ (w27.setCell ⟨w3.heap.size + 1, 0, none⟩ (.int .u64 (msk (d0 || decide (sd = 0))))) from K28.out.trans ((KeepsOthers.setCell _ _ _).from _))
   clear C28 K28
   have BO29 := η (show Bx (w27.setCell ⟨w3.heap.size + 1, 0, none⟩ (.int .u64 (msk (d0 || decide (sd = 0))))) (w3.heap.size) #[.int .u64 (msk (decide (sd < 0)))] 61 from BO28.out.other _ (show w3.heap.size ≠ w3.heap.size + 1 from by have h1 := HSZ.out; have h2 := HBE.out; omega))
   clear BO28
   have BD29 := η (show Bx (w27.setCell ⟨w3.heap.size + 1, 0, none⟩ (.int .u64 (msk (d0 || decide (sd = 0))))) (w3.heap.size + 1) #[.int .u64 (msk (d0 || decide (sd = 0)))] 61 from BD28.out.set 0 _)
   clear BD28
   have BV29 := η (show Bx (w27.setCell ⟨w3.heap.size + 1, 0, none⟩ (.int .u64 (msk (d0 || decide (sd = 0))))) (w3.heap.size + 1 + 1) #[.slice A n c] 29 from BV28.out.other _ (show w3.heap.size + 1 + 1 ≠ w3.heap.size + 1 from by have h1 := HSZ.out; have h2 := HBE.out; omega))
   clear BV28
   have BE29 := η (show Bx (w27.setCell ⟨w3.heap.size + 1, 0, none⟩ (.int .u64 (msk (d0 || decide (sd = 0))))) (Be) #[.int .i64 (k : Int), .int .i64 (k2 : Int), .int .i64 (f k), .int .i64 (g k), .int .i64 (f k2), .int .i64 (g k2)] 245 from BE28.out.other _ (show Be ≠ w3.heap.size + 1 from by have h1 := HSZ.out; have h2 := HBE.out; omega))
   clear BE28
   generalize (w27.setCell ⟨w3.heap.size + 1, 0, none⟩ (.int .u64 (msk (d0 || decide (sd = 0))))) = w29 at *
   refine ⟨K29.out, ⟨ZbU H4'.out C29.out K29.out.size, (show _ = _ from BV29.out).trans (show _ = _ from H3'.out).symm⟩, ?_⟩
   dsimp only; rw [hss.out]; dsimp only
   rw [if_pos HK0.out, Bool.false_or]
   exact ⟨BO29.out, BD29.out, BV29.out, C29.out⟩
  ·have HK0 := η hk0; clear hk0
   have HOR := η (show bits .or .u64 (msk o0) (msk (decide (sd < 0))) = msk (o0 || decide (sd < 0)) from ZbH _ _); have HOS := η (ZbH d0 (decide (sd = 0)))
   have zE := H5.out.cell 0 (v := .int .i64 (k : Int)) rfl; have zN := (FN_3.out.below H4.out ν).cell 0 (v := .pointer none) rfl
   have hk0' : ¬ ((k : Int) = 0) := by have := HK0.out; omega
   gi_wp2_with fail
   clear zE zN hk0'
   have FT_20 := η (FT_3.out.below H4.out ν)
   have FX_20 := η (FX_3.out.below H4.out ν)
   have FN_20 := η (FN_3.out.below H4.out ν)
   have FP_20 := η (FP_3.out.below H4.out ν)
   have FS_20 := η (FS_3.out.below H4.out ν)
   have FO_20 := H1
   have FD_20 := H2
   have FV_20 := H3
   have FE_20 := H5
   have HS20 := η (Below.refl W.heap.size W)
   skip
   try refine ⟨trivial, ?_⟩
   refine CallsIn.mono (n := _) (CallsIn.inRound l (callsIn_wide.2 (Ju _ _ _ _))) ?_
   rintro e w21 ⟨rfl, rfl⟩
   gi_wp2_with fail
   refine wpIn_region_any (by kernel_rfl) ?_
   change wpAnyIn _ _ _ _ _ _ _ _ _ (World.drew _)
   have RB21 := η (Je W)
   refine Jk (WideF.round l) (fun a b => Below a.heap.size a b) (fun _ => J0) (fun _ _ _ h k => J6 h k) [⟨0, 25, fun z_ _ => z_ = .int .i64 (ori f g n)⟩, ⟨1, 26, fun z_ _ => z_ = .pointer (some ⟨Be, 2, none⟩)⟩, ⟨2, 27, fun z_ _ => z_ = .agg #[.int .i64 (f k), .int .i64 (g k)]⟩, ⟨3, 28, fun z_ _ => z_ = .pointer (some ⟨Be, 4, none⟩)⟩, ⟨4, 29, fun z_ _ => z_ = .agg #[.int .i64 (f k2), .int .i64 (g k2)]⟩, ⟨5, 30, fun z_ _ => z_ = .agg #[.int .i64 x, .int .i64 y]⟩, ⟨6, 31, fun z_ _ => z_ = .int .i64 (sg (det (f k) (g k) (f k2) (g k2) x y))⟩, ⟨7, 32, fun z_ _ => z_ = .int .i64 sd⟩, ⟨8, 11, fun z_ _ => z_ = .int .i64 sd⟩] 9 (by kernel_rfl) ?_ ?_ ?_
   ·refine ⟨?_, ?_, ?_, ?_, ?_, ?_, ?_, ?_, ?_, trivial⟩
    all_goals (intro x w w' hb h; first | exact h | (obtain ⟨b_, h1, h2⟩ := h; exact ⟨b_, h1, h2.below hb ν⟩))
   ·refine ⟨?_, ?_, ?_, ?_, ?_, ?_, ?_, ?_, ?_, trivial⟩
    ·intro a wz K hb ht hd hK
     have hbw := η (J6 RB21.out hb); clear hb
     have hx7 := (ht 7 rfl).trans rfl
     have es7 : a.tmps.getD 7 undef = _ := J7 hx7; clear hx7
     clear ht hd
     have zc0 := (FS_20.out.below hbw.out ν).cell 0 (v := .int .i64 (ori f g n)) rfl
     have HK := η hK; clear hK
     refine oP (fun K' HK' => ?_)
     go_simp
     exact HK'.out _ _ (HK.out _ _ J0 rfl)
    ·intro a wz K hb ht hd hK
     have hbw := η (J6 RB21.out hb); clear hb
     have hx10 := (ht 10 rfl).trans rfl
     have es10 : a.tmps.getD 10 undef = _ := J7 hx10; clear hx10
     clear ht hd
     have HK := η hK; clear hK
     refine oP (fun K' HK' => ?_)
     go_simp
     exact HK'.out _ _ (HK.out _ _ J0 rfl)
    ·intro a wz K hb ht hd hK
     have hbw := η (J6 RB21.out hb); clear hb
     obtain ⟨x26, hx26, hp26⟩ := hd 1 _ rfl (by kernel_rfl)
     obtain rfl := hp26
     have es26 : a.tmps.getD 26 undef = _ := J7 hx26; clear hx26
     clear ht hd
     have zc0 := (FE_20.out.below hbw.out ν).cell 2 (v := .int .i64 (f k)) rfl
     have zc1 := (FE_20.out.below hbw.out ν).cell 3 (v := .int .i64 (g k)) rfl
     have HK := η hK; clear hK
     refine oP (fun K' HK' => ?_)
     go_simp
     exact HK'.out _ _ (HK.out _ _ J0 rfl)
    ·intro a wz K hb ht hd hK
     have hbw := η (J6 RB21.out hb); clear hb
     have hx10 := (ht 10 rfl).trans rfl
     have es10 : a.tmps.getD 10 undef = _ := J7 hx10; clear hx10
     clear ht hd
     have HK := η hK; clear hK
     refine oP (fun K' HK' => ?_)
     go_simp
     exact HK'.out _ _ (HK.out _ _ J0 rfl)
    ·intro a wz K hb ht hd hK
     have hbw := η (J6 RB21.out hb); clear hb
     obtain ⟨x28, hx28, hp28⟩ := hd 3 _ rfl (by kernel_rfl)
     obtain rfl := hp28
     have es28 : a.tmps.getD 28 undef = _ := J7 hx28; clear hx28
     clear ht hd
     have zc0 := (FE_20.out.below hbw.out ν).cell 4 (v := .int .i64 (f k2)) rfl
     have zc1 := (FE_20.out.below hbw.out ν).cell 5 (v := .int .i64 (g k2)) rfl
     have HK := η hK; clear hK
     refine oP (fun K' HK' => ?_)
     go_simp
     exact HK'.out _ _ (HK.out _ _ J0 rfl)
    ·intro a wz K hb ht hd hK
     have hbw := η (J6 RB21.out hb); clear hb
     have hx5 := (ht 5 rfl).trans rfl
     have es5 : a.tmps.getD 5 undef = _ := J7 hx5; clear hx5
     clear ht hd
     have zc0 := (FP_20.out.below hbw.out ν).cell 0 (v := .int .i64 x) rfl
     have zc1 := (FP_20.out.below hbw.out ν).cell 1 (v := .int .i64 y) rfl
     have HK := η hK; clear hK
     refine oP (fun K' HK' => ?_)
     go_simp
     exact HK'.out _ _ (HK.out _ _ J0 rfl)
    ·intro a wz K hb ht hd hK
     have hbw := η (J6 RB21.out hb); clear hb
     obtain ⟨x27, hx27, hp27⟩ := hd 2 _ rfl (by kernel_rfl)
     obtain rfl := hp27
     have es27 : a.tmps.getD 27 undef = _ := J7 hx27; clear hx27
     obtain ⟨x29, hx29, hp29⟩ := hd 4 _ rfl (by kernel_rfl)
     obtain rfl := hp29
     have es29 : a.tmps.getD 29 undef = _ := J7 hx29; clear hx29
     obtain ⟨x30, hx30, hp30⟩ := hd 5 _ rfl (by kernel_rfl)
     obtain rfl := hp30
     have es30 : a.tmps.getD 30 undef = _ := J7 hx30; clear hx30
     clear ht hd
     have HK := η hK; clear hK
     refine oP (fun K' HK' => ?_)
     go_simp
     refine (JQ _ _ _ _ _ _ HP3.out _ (FT_20.out.below hbw.out ν)).mono ?_
     rintro e w1 ⟨rfl, B⟩
     go_wp2_with fail
     exact HK'.out _ _ (HK.out _ _ B rfl)
    ·intro a wz K hb ht hd hK
     have hbw := η (J6 RB21.out hb); clear hb
     obtain ⟨x25, hx25, hp25⟩ := hd 0 _ rfl (by kernel_rfl)
     obtain rfl := hp25
     have es25 : a.tmps.getD 25 undef = _ := J7 hx25; clear hx25
     obtain ⟨x31, hx31, hp31⟩ := hd 6 _ rfl (by kernel_rfl)
     obtain rfl := hp31
     have es31 : a.tmps.getD 31 undef = _ := J7 hx31; clear hx31
     clear ht hd
     have HK := η hK; clear hK
     have e1 := HPR.out; have e2 := HPS.out
     refine oP (fun K' HK' => ?_)
     go_simp
     exact HK'.out _ _ (HK.out _ _ J0 rfl)
    ·intro a wz K hb ht hd hK
     have hbw := η (J6 RB21.out hb); clear hb
     obtain ⟨x32, hx32, hp32⟩ := hd 7 _ rfl (by kernel_rfl)
     obtain rfl := hp32
     have es32 : a.tmps.getD 32 undef = _ := J7 hx32; clear hx32
     clear ht hd
     have HK := η hK; clear hK
     refine oP (fun K' HK' => ?_)
     go_simp
     exact HK'.out _ _ (HK.out _ _ J0 rfl)
   intro w22 X hb hv
   simp only [List.foldl_cons, List.foldl_nil, Act.put, List.setIfInBounds_toArray, List.set_cons_zero, List.set_cons_succ, List.toList_toArray, List.drop_succ_cons, List.drop_zero]
   obtain ⟨hv0, hv1, hv2, hv3, hv4, hv5, hv6, hv7, hv8, -⟩ := hv
   have hV0 : (fun z_ _ => z_ = .int .i64 (ori f g n)) (X 25) w22 := hv0; clear hv0; have hv0 := hV0; clear hV0; generalize X 25 = X25 at *
   have hV1 : (fun z_ _ => z_ = .pointer (some ⟨Be, 2, none⟩)) (X 26) w22 := hv1; clear hv1; have hv1 := hV1; clear hV1; generalize X 26 = X26 at *
   have hV2 : (fun z_ _ => z_ = .agg #[.int .i64 (f k), .int .i64 (g k)]) (X 27) w22 := hv2; clear hv2; have hv2 := hV2; clear hV2; generalize X 27 = X27 at *
   have hV3 : (fun z_ _ => z_ = .pointer (some ⟨Be, 4, none⟩)) (X 28) w22 := hv3; clear hv3; have hv3 := hV3; clear hV3; generalize X 28 = X28 at *
   have hV4 : (fun z_ _ => z_ = .agg #[.int .i64 (f k2), .int .i64 (g k2)]) (X 29) w22 := hv4; clear hv4; have hv4 := hV4; clear hV4; generalize X 29 = X29 at *
   have hV5 : (fun z_ _ => z_ = .agg #[.int .i64 x, .int .i64 y]) (X 30) w22 := hv5; clear hv5; have hv5 := hV5; clear hV5; generalize X 30 = X30 at *
   have hV6 : (fun z_ _ => z_ = .int .i64 (sg (det (f k) (g k) (f k2) (g k2) x y))) (X 31) w22 := hv6; clear hv6; have hv6 := hV6; clear hV6; generalize X 31 = X31 at *
   have hV7 : (fun z_ _ => z_ = .int .i64 sd) (X 32) w22 := hv7; clear hv7; have hv7 := hV7; clear hV7; generalize X 32 = X32 at *
   have hV8 : (fun z_ _ => z_ = .int .i64 sd) (X 11) w22 := hv8; clear hv8; have hv8 := hV8; clear hV8; generalize X 11 = X11 at *
   obtain rfl := hv0
   obtain rfl := hv1
   obtain rfl := hv2
   obtain rfl := hv3
   obtain rfl := hv4
   obtain rfl := hv5
   obtain rfl := hv6
   obtain rfl := hv7
   obtain rfl := hv8
   have RC := η (J6 RB21.out hb); clear hb
   have FT_22 := η (FT_20.out.below RC.out ν)
   have FX_22 := η (FX_20.out.below RC.out ν)
   have FN_22 := η (FN_20.out.below RC.out ν)
   have FP_22 := η (FP_20.out.below RC.out ν)
   have FS_22 := η (FS_20.out.below RC.out ν)
   have FO_22 := η (FO_20.out.below RC.out ν)
   have FD_22 := η (FD_20.out.below RC.out ν)
   have FV_22 := η (FV_20.out.below RC.out ν)
   have FE_22 := η (FE_20.out.below RC.out ν)
   have HB22 := η (HS20.out.trans (RC.out.mono HS20.out.size))
   clear HS20 FT_20 FX_20 FN_20 FP_20 FS_20 FO_20 FD_20 FV_20 FE_20 RB21
   gi_wp2_with fail
   refine wpIn_region_any (by kernel_rfl) ?_
   change wpAnyIn _ _ _ _ _ _ _ _ _ (World.drew _)
   have RB22 := η (Je w22)
   refine Jk (WideF.round l) (fun a b => Below a.heap.size a b) (fun _ => J0) (fun _ _ _ h k => J6 h k) [⟨0, 33, fun z_ _ => z_ = .int .u64 (msk o0)⟩, ⟨1, 34, fun z_ _ => z_ = .int .i64 sd⟩, ⟨2, 35, fun z_ _ => z_ = .int .u64 (msk (decide (sd < 0)))⟩, ⟨3, 36, fun z_ _ => z_ = .int .u64 (msk (o0 || decide (sd < 0)))⟩] 4 (by kernel_rfl) ?_ ?_ ?_
   ·refine ⟨?_, ?_, ?_, ?_, trivial⟩
    all_goals (intro x w w' hb h; first | exact h | (obtain ⟨b_, h1, h2⟩ := h; exact ⟨b_, h1, h2.below hb ν⟩))
   ·refine ⟨?_, ?_, ?_, ?_, trivial⟩
    ·intro a wz K hb ht hd hK
     have hbw := η (J6 RB22.out hb); clear hb
     have hx8 := (ht 8 rfl).trans rfl
     have es8 : a.tmps.getD 8 undef = _ := J7 hx8; clear hx8
     clear ht hd
     have zc0 := (FO_22.out.below hbw.out ν).cell 0 (v := .int .u64 (msk o0)) rfl
     have HK := η hK; clear hK
     refine oP (fun K' HK' => ?_)
     go_simp
     exact HK'.out _ _ (HK.out _ _ J0 rfl)
    ·intro a wz K hb ht hd hK
     have hbw := η (J6 RB22.out hb); clear hb
     have hx11 := (ht 11 rfl).trans rfl
     have es11 : a.tmps.getD 11 undef = _ := J7 hx11; clear hx11
     clear ht hd
     have HK := η hK; clear hK
     refine oP (fun K' HK' => ?_)
     go_simp
     exact HK'.out _ _ (HK.out _ _ J0 rfl)
    ·intro a wz K hb ht hd hK
     have hbw := η (J6 RB22.out hb); clear hb
     obtain ⟨x34, hx34, hp34⟩ := hd 1 _ rfl (by kernel_rfl)
     obtain rfl := hp34
     have es34 : a.tmps.getD 34 undef = _ := J7 hx34; clear hx34
     clear ht hd
     have HK := η hK; clear hK
     refine oP (fun K' HK' => ?_)
     go_simp
     refine (Zao _ HI.out _).mono ?_
     rintro e w1 ⟨rfl, rfl⟩
     go_wp2_with fail
     exact HK'.out _ _ (HK.out _ _ J0 rfl)
    ·intro a wz K hb ht hd hK
     have hbw := η (J6 RB22.out hb); clear hb
     obtain ⟨x33, hx33, hp33⟩ := hd 0 _ rfl (by kernel_rfl)
     obtain rfl := hp33
     have es33 : a.tmps.getD 33 undef = _ := J7 hx33; clear hx33
     obtain ⟨x35, hx35, hp35⟩ := hd 2 _ rfl (by kernel_rfl)
     obtain rfl := hp35
     have es35 : a.tmps.getD 35 undef = _ := J7 hx35; clear hx35
     clear ht hd
     have HK := η hK; clear hK
     have e1 := HOR.out
     refine oP (fun K' HK' => ?_)
     go_simp
     exact HK'.out _ _ (HK.out _ _ J0 rfl)
   intro w23 X hb hv
   simp only [List.foldl_cons, List.foldl_nil, Act.put, List.setIfInBounds_toArray, List.set_cons_zero, List.set_cons_succ, List.toList_toArray, List.drop_succ_cons, List.drop_zero]
   obtain ⟨hv0, hv1, hv2, hv3, -⟩ := hv
   have hV0 : (fun z_ _ => z_ = .int .u64 (msk o0)) (X 33) w23 := hv0; clear hv0; have hv0 := hV0; clear hV0; generalize X 33 = X33 at *
   have hV1 : (fun z_ _ => z_ = .int .i64 sd) (X 34) w23 := hv1; clear hv1; have hv1 := hV1; clear hV1; generalize X 34 = X34 at *
   have hV2 : (fun z_ _ => z_ = .int .u64 (msk (decide (sd < 0)))) (X 35) w23 := hv2; clear hv2; have hv2 := hV2; clear hV2; generalize X 35 = X35 at *
   have hV3 : (fun z_ _ => z_ = .int .u64 (msk (o0 || decide (sd < 0)))) (X 36) w23 := hv3; clear hv3; have hv3 := hV3; clear hV3; generalize X 36 = X36 at *
   obtain rfl := hv0
   obtain rfl := hv1
   obtain rfl := hv2
   obtain rfl := hv3
   have RC := η (J6 RB22.out hb); clear hb
   have FT_23 := η (FT_22.out.below RC.out ν)
   have FX_23 := η (FX_22.out.below RC.out ν)
   have FN_23 := η (FN_22.out.below RC.out ν)
   have FP_23 := η (FP_22.out.below RC.out ν)
   have FS_23 := η (FS_22.out.below RC.out ν)
   have FO_23 := η (FO_22.out.below RC.out ν)
   have FD_23 := η (FD_22.out.below RC.out ν)
   have FV_23 := η (FV_22.out.below RC.out ν)
   have FE_23 := η (FE_22.out.below RC.out ν)
   have HB23 := η (HB22.out.trans (RC.out.mono HB22.out.size))
   clear HB22 FT_22 FX_22 FN_22 FP_22 FS_22 FO_22 FD_22 FV_22 FE_22 RB22
   have C24 := η (H4.out.trans (HB23.out.mono H4.out.size)); have K24 := η (KF.out.trans ((Zal HB23.out).from _))
   clear H4 KF
   have BO24 := FO_23
   clear H1
   have BD24 := FD_23
   clear H2
   have BV24 := FV_23
   clear H3
   have BE24 := FE_23
   clear H5
   clear HB23 FT_23 FX_23 FN_23 FP_23 FS_23 FO_23 FD_23 FV_23 FE_23
   have zO := BO24.out.cell 0 (v := .int .u64 (msk o0)) rfl; have zF := BO24.out.free 0; have zL := BO24.out.lt
   gi_wp2_with fail
   clear zO zF zL
   have C25 := η (show Below w3.heap.size w3 (w23.setCell ⟨w3.heap.size, 0, none⟩ (.int .u64 (msk (o0 || decide (sd < 0))))) from C24.out.setCell (p := ⟨w3.heap.size, 0, none⟩) ν _); have K25 := η (show KeepsFrom _ _ (w23.setCell ⟨w3.heap.size, 0, none⟩ (.int .u64 (msk (o0 || decide (sd < 0))))) from K24.out.trans ((KeepsOthers.setCell _ _ _).from _))
   clear C24 K24
   have BO25 := η (show Bx (w23.setCell ⟨w3.heap.size, 0, none⟩ (.int .u64 (msk (o0 || decide (sd < 0))))) (w3.heap.size) #[.int .u64 (msk (o0 || decide (sd < 0)))] 61 from BO24.out.set 0 _)
   clear BO24
   have BD25 := η (show Bx (w23.setCell ⟨w3.heap.size, 0, none⟩ (.int .u64 (msk (o0 || decide (sd < 0))))) (w3.heap.size + 1) #[.int .u64 (msk d0)] 61 from BD24.out.other _ (show w3.heap.size + 1 ≠ w3.heap.size from by have h1 := HSZ.out; have h2 := HBE.out; omega))
   clear BD24
   have BV25 := η (show Bx (w23.setCell ⟨w3.heap.size, 0, none⟩ (.int .u64 (msk (o0 || decide (sd < 0))))) (w3.heap.size + 1 + 1) #[.slice A n c] 29 from BV24.out.other _ (show w3.heap.size + 1 + 1 ≠ w3.heap.size from by have h1 := HSZ.out; have h2 := HBE.out; omega))
   clear BV24
   have BE25 := η (show Bx (w23.setCell ⟨w3.heap.size, 0, none⟩ (.int .u64 (msk (o0 || decide (sd < 0))))) (Be) #[.int .i64 (k : Int), .int .i64 (k2 : Int), .int .i64 (f k), .int .i64 (g k), .int .i64 (f k2), .int .i64 (g k2)] 245 from BE24.out.other _ (show Be ≠ w3.heap.size from by have h1 := HSZ.out; have h2 := HBE.out; omega))
   clear BE24
   generalize (w23.setCell ⟨w3.heap.size, 0, none⟩ (.int .u64 (msk (o0 || decide (sd < 0))))) = w25 at *
   have FT_25 := η (FT_3.out.below C25.out ν)
   have FX_25 := η (FX_3.out.below C25.out ν)
   have FN_25 := η (FN_3.out.below C25.out ν)
   have FP_25 := η (FP_3.out.below C25.out ν)
   have FS_25 := η (FS_3.out.below C25.out ν)
   have FO_25 := BO25
   have FD_25 := BD25
   have FV_25 := BV25
   have FE_25 := BE25
   have HS25 := η (Below.refl w25.heap.size w25)
   refine wpIn_region_any (by kernel_rfl) ?_
   change wpAnyIn _ _ _ _ _ _ _ _ _ (World.drew _)
   have RB25 := η (Je w25)
   refine Jk (WideF.round l) (fun a b => Below a.heap.size a b) (fun _ => J0) (fun _ _ _ h k => J6 h k) [⟨0, 37, fun z_ _ => z_ = .int .u64 (msk d0)⟩, ⟨1, 38, fun z_ _ => z_ = .int .i64 sd⟩, ⟨2, 39, fun z_ _ => z_ = .int .u64 (IntKind.u64.wrap sd)⟩, ⟨3, 40, fun z_ _ => z_ = .int .u64 (msk (decide (sd = 0)))⟩, ⟨4, 41, fun z_ _ => z_ = .int .u64 (msk (d0 || decide (sd = 0)))⟩] 5 (by kernel_rfl) ?_ ?_ ?_
   ·refine ⟨?_, ?_, ?_, ?_, ?_, trivial⟩
    all_goals (intro x w w' hb h; first | exact h | (obtain ⟨b_, h1, h2⟩ := h; exact ⟨b_, h1, h2.below hb ν⟩))
   ·refine ⟨?_, ?_, ?_, ?_, ?_, trivial⟩
    ·intro a wz K hb ht hd hK
     have hbw := η (J6 RB25.out hb); clear hb
     have hx9 := (ht 9 rfl).trans rfl
     have es9 : a.tmps.getD 9 undef = _ := J7 hx9; clear hx9
     clear ht hd
     have zc0 := (FD_25.out.below hbw.out ν).cell 0 (v := .int .u64 (msk d0)) rfl
     have HK := η hK; clear hK
     refine oP (fun K' HK' => ?_)
     go_simp
     exact HK'.out _ _ (HK.out _ _ J0 rfl)
    ·intro a wz K hb ht hd hK
     have hbw := η (J6 RB25.out hb); clear hb
     have hx11 := (ht 11 rfl).trans rfl
     have es11 : a.tmps.getD 11 undef = _ := J7 hx11; clear hx11
     clear ht hd
     have HK := η hK; clear hK
     refine oP (fun K' HK' => ?_)
     go_simp
     exact HK'.out _ _ (HK.out _ _ J0 rfl)
    ·intro a wz K hb ht hd hK
     have hbw := η (J6 RB25.out hb); clear hb
     obtain ⟨x38, hx38, hp38⟩ := hd 1 _ rfl (by kernel_rfl)
     obtain rfl := hp38
     have es38 : a.tmps.getD 38 undef = _ := J7 hx38; clear hx38
     clear ht hd
     have HK := η hK; clear hK
     refine oP (fun K' HK' => ?_)
     go_simp
     exact HK'.out _ _ (HK.out _ _ J0 rfl)
    ·intro a wz K hb ht hd hK
     have hbw := η (J6 RB25.out hb); clear hb
     obtain ⟨x39, hx39, hp39⟩ := hd 2 _ rfl (by kernel_rfl)
     obtain rfl := hp39
     have es39 : a.tmps.getD 39 undef = _ := J7 hx39; clear hx39
     clear ht hd
     have HK := η hK; clear hK
     refine oP (fun K' HK' => ?_)
     go_simp
     refine (Zax _ (JO _) _).mono ?_
     rintro e w1 ⟨rfl, rfl⟩
     rw [HW.out]
     go_wp2_with fail
     exact HK'.out _ _ (HK.out _ _ J0 rfl)
    ·intro a wz K hb ht hd hK
     have hbw := η (J6 RB25.out hb); clear hb
     obtain ⟨x37, hx37, hp37⟩ := hd 0 _ rfl (by kernel_rfl)
     obtain rfl := hp37
     have es37 : a.tmps.getD 37 undef = _ := J7 hx37; clear hx37
     obtain ⟨x40, hx40, hp40⟩ := hd 3 _ rfl (by kernel_rfl)
     obtain rfl := hp40
     have es40 : a.tmps.getD 40 undef = _ := J7 hx40; clear hx40
     clear ht hd
     have HK := η hK; clear hK
     have e1 := HOS.out
     refine oP (fun K' HK' => ?_)
     go_simp
     exact HK'.out _ _ (HK.out _ _ J0 rfl)
   intro w26 X hb hv
   simp only [List.foldl_cons, List.foldl_nil, Act.put, List.setIfInBounds_toArray, List.set_cons_zero, List.set_cons_succ, List.toList_toArray, List.drop_succ_cons, List.drop_zero]
   obtain ⟨hv0, hv1, hv2, hv3, hv4, -⟩ := hv
   have hV0 : (fun z_ _ => z_ = .int .u64 (msk d0)) (X 37) w26 := hv0; clear hv0; have hv0 := hV0; clear hV0; generalize X 37 = X37 at *
   have hV1 : (fun z_ _ => z_ = .int .i64 sd) (X 38) w26 := hv1; clear hv1; have hv1 := hV1; clear hV1; generalize X 38 = X38 at *
   have hV2 : (fun z_ _ => z_ = .int .u64 (IntKind.u64.wrap sd)) (X 39) w26 := hv2; clear hv2; have hv2 := hV2; clear hV2; generalize X 39 = X39 at *
   have hV3 : (fun z_ _ => z_ = .int .u64 (msk (decide (sd = 0)))) (X 40) w26 := hv3; clear hv3; have hv3 := hV3; clear hV3; generalize X 40 = X40 at *
   have hV4 : (fun z_ _ => z_ = .int .u64 (msk (d0 || decide (sd = 0)))) (X 41) w26 := hv4; clear hv4; have hv4 := hV4; clear hV4; generalize X 41 = X41 at *
   obtain rfl := hv0
   obtain rfl := hv1
   obtain rfl := hv2
   obtain rfl := hv3
   obtain rfl := hv4
   have RC := η (J6 RB25.out hb); clear hb
   have FT_26 := η (FT_25.out.below RC.out ν)
   have FX_26 := η (FX_25.out.below RC.out ν)
   have FN_26 := η (FN_25.out.below RC.out ν)
   have FP_26 := η (FP_25.out.below RC.out ν)
   have FS_26 := η (FS_25.out.below RC.out ν)
   have FO_26 := η (FO_25.out.below RC.out ν)
   have FD_26 := η (FD_25.out.below RC.out ν)
   have FV_26 := η (FV_25.out.below RC.out ν)
   have FE_26 := η (FE_25.out.below RC.out ν)
   have HB26 := η (HS25.out.trans (RC.out.mono HS25.out.size))
   clear HS25 FT_25 FX_25 FN_25 FP_25 FS_25 FO_25 FD_25 FV_25 FE_25 RB25
   have C27 := η (C25.out.trans (HB26.out.mono C25.out.size)); have K27 := η (K25.out.trans ((Zal HB26.out).from _))
   clear C25 K25
   have BO27 := FO_26
   clear BO25
   have BD27 := FD_26
   clear BD25
   have BV27 := FV_26
   clear BV25
   have BE27 := FE_26
   clear BE25
   clear HB26 FT_26 FX_26 FN_26 FP_26 FS_26 FO_26 FD_26 FV_26 FE_26
   have zO := BD27.out.cell 0 (v := .int .u64 (msk d0)) rfl; have zF := BD27.out.free 0; have zL := BD27.out.lt
   gi_wp2_with fail
   clear zO zF zL
   have C28 := η (show Below w3.heap.size w3 (w26.setCell ⟨w3.heap.size + 1, 0, none⟩ (.int .u64 (msk (d0 || decide (sd = 0))))) from C27.out.setCell (p := ⟨w3.heap.size + 1, 0, none⟩) (Nat.le_add_right _ _) _); have K28 := η (show KeepsFrom _ _ (w26.setCell ⟨w3.heap.size + 1, 0, none⟩ (.int .u64 (msk (d0 || decide (sd = 0))))) from K27.out.trans ((KeepsOthers.setCell _ _ _).from _))
   clear C27 K27
   have BO28 := η (show Bx (w26.setCell ⟨w3.heap.size + 1, 0, none⟩ (.int .u64 (msk (d0 || decide (sd = 0))))) (w3.heap.size) #[.int .u64 (msk (o0 || decide (sd < 0)))] 61 from BO27.out.other _ (show w3.heap.size ≠ w3.heap.size + 1 from by have h1 := HSZ.out; have h2 := HBE.out; omega))
   clear BO27
   have BD28 := η (show Bx (w26.setCell ⟨w3.heap.size + 1, 0, none⟩ (.int .u64 (msk (d0 || decide (sd = 0))))) (w3.heap.size + 1) #[.int .u64 (msk (d0 || decide (sd = 0)))] 61 from BD27.out.set 0 _)
   clear BD27
   have BV28 := η (show Bx (w26.setCell ⟨w3.heap.size + 1, 0, none⟩ (.int .u64 (msk (d0 || decide (sd = 0))))) (w3.heap.size + 1 + 1) #[.slice A n c] 29 from BV27.out.other _ (show w3.heap.size + 1 + 1 ≠ w3.heap.size + 1 from by have h1 := HSZ.out; have h2 := HBE.out; omega))
   clear BV27
   have BE28 := η (show Bx (w26.setCell ⟨w3.heap.size + 1, 0, none⟩ (.int .u64 (msk (d0 || decide (sd = 0))))) (Be) #[.int .i64 (k : Int), .int .i64 (k2 : Int), .int .i64 (f k), .int .i64 (g k), .int .i64 (f k2), .int .i64 (g k2)] 245 from BE27.out.other _ (show Be ≠ w3.heap.size + 1 from by have h1 := HSZ.out; have h2 := HBE.out; omega))
   clear BE27
   generalize (w26.setCell ⟨w3.heap.size + 1, 0, none⟩ (.int .u64 (msk (d0 || decide (sd = 0))))) = w28 at *
   refine ⟨K28.out, ⟨ZbU H4'.out C28.out K28.out.size, (show _ = _ from BV28.out).trans (show _ = _ from H3'.out).symm⟩, ?_⟩
   dsimp only; rw [hss.out]; dsimp only
   rw [if_neg HK0.out]
   exact ⟨BO28.out, BD28.out, BV28.out, C28.out⟩
 case done =>
  rintro D xs W hD hxs ⟨i1, i2, i3, i4⟩ hK
  have hxs' : xs = eds n := hxs
  subst hxs'
  have zO := i1.cell 0 (v := .int .u64 (msk (JX (Jm f g n x y) (eds n)).1)) rfl
  have zD := i2.cell 0 (v := .int .u64 (msk (JX (Jm f g n x y) (eds n)).2)) rfl
  have H4 := η i4; have HK := η hK; have HD := η hD
  clear i1 i2 i3 i4 hK hD hxs
  gi_wp2_with fail
  try refine ⟨trivial, ?_⟩
  refine CallsIn.mono (n := _) (callsIn_wide.2 (Ze1 _ _ W (FT_3.out.below H4.out ν))) ?_
  rintro e w9 ⟨rfl, nd, rfl⟩
  rw [Zhe]
  clear zO zD
  have HK2 := η (show (W.drewN nd).heap[D]? = some (.deferred (some [])) from HK.out)
  gi_wp2_with fail
  refine ⟨by simp, .inl ⟨_, _, rfl, run_takeDeferred HK2.out, ?_⟩⟩
  have hB : Below w.heap.size w (W.drewN nd) := (show Below w.heap.size W (W.drewN nd) from ⟨rfl, rfl, rfl, Nat.le_refl _, fun _ _ => rfl⟩) |> fun h => (HB3.out.trans (H4.out.mono HB3.out.size)).trans h
  exact ⟨_, results_tmp rfl _ _ _, rfl, hB.trans (belowK_b (w := w) ν _ D _ _ (by have := HD.out; have := HSZ.out; have := HB3.out.size; omega) HK2.out rfl rfl)⟩
end Go.Proofs.YtjdiilkljgljkaaGreatDoor
namespace Go.Proofs.YtjdiilkljgljkaaGreatDoor
set_option linter.unusedVariables false
set_option linter.unusedSimpArgs false
open Go.RowKit Wd
theorem ZbW (b off n c : Nat) (f g : Nat → Int) (k : Nat) (x y : Int) (hin : inP n) (hk : k < n) (hx : IsI x) (hy : IsI y) (w : World) (hp : Pts w (some ⟨b, off, none⟩) n c f g) :
  Calls Tryz.prog 97 #[.slice (some ⟨b, off, none⟩) n c, .int .i64 (k : Int), .agg #[.int .i64 x, .int .i64 y]] w fun e w' => e = .returned (.int .i64 (sg (edg f g n k x y))) ∧ Below w.heap.size w w' := by
 have hn3 := hin.1; have hn64 := hin.2
 have hw1 : wrap64 ((k : Int) + 1) = (k : Int) + 1 := by rw [← IntWalk.i64_left, IntKind.wrap_i64]; omega
 have hw2 : IntKind.i64.wrap ((k : Int) + 1) = (k : Int) + 1 := by rw [IntKind.wrap_i64]; omega
 have hk2 : (k + 1) % n < n := Nat.mod_lt _ (by omega)
 have hmod := ZcZ k n
 have hw3 : wrap64 (((k + 1) % n : Nat) : Int) = (((k + 1) % n : Nat) : Int) := by rw [← IntWalk.i64_left, IntKind.wrap_i64]; omega
 have hw4 : IntKind.i64.wrap (((k + 1) % n : Nat) : Int) = (((k + 1) % n : Nat) : Int) := by rw [IntKind.wrap_i64]; omega
 have hp3 := Zit hp hk hk2 hx hy
 have FE := η (hp.one hk); have FG := η (hp.one hk2)
 have HP := η hp3; clear hp3
 have HD := η (show edg f g n k x y = det (f k) (g k) (f ((k + 1) % n)) (g ((k + 1) % n)) x y from rfl)
 rw [HD.out]
 have hm := Nat.le_trans hp.cap hp.max
 clear hp HD
 generalize (k + 1) % n = k2 at *
 have hnz : ¬ (n = 0) := by omega
 have HB0 := η (Below.refl w.heap.size w)
 go_enter Tryz.func97, Tryz.ntmps97
 go_wp2_with fail
 have B : Below w.heap.size w (w.alloc (.cells #[.int .i64 x, .int .i64 y] 23)) := (HB0.out.alloc HB0.out.size _)
 have C : Below w.heap.size w (w.alloc (.cells #[.int .i64 x, .int .i64 y] 23)) := ((Below.refl w.heap.size w).alloc ν _)
 have X0 : Bx (w.alloc (.cells #[.int .i64 x, .int .i64 y] 23)) (w.heap.size) #[.int .i64 x, .int .i64 y] 23 := by simpa using (Bx.new w #[.int .i64 x, .int .i64 y] 23)
 have FE_1 := η (FE.out.below C ν)
 have FG_1 := η (FG.out.below C ν)
 have HB1 := η B
 have FP_1 := η X0
 clear B C X0 HB0 FE FG
 generalize (w.alloc (.cells #[.int .i64 x, .int .i64 y] 23)) = w1 at *
 have RB1 := η (Je w1)
 have QF1 := η (show ∀ w', Below w1.heap.size w1 w' → w'.cell? ⟨b, off + k * 2, none⟩ = some (.int .i64 (f k)) ∧ w'.cell? ⟨b, off + k * 2 + 1, none⟩ = some (.int .i64 (g k)) ∧ w'.cell? ⟨b, off + k2 * 2, none⟩ = some (.int .i64 (f k2)) ∧ w'.cell? ⟨b, off + k2 * 2 + 1, none⟩ = some (.int .i64 (g k2)) ∧ w'.cell? ⟨w.heap.size, 0, none⟩ = some (.int .i64 x) ∧ w'.cell? ⟨w.heap.size, 1, none⟩ = some (.int .i64 y) from fun w' hb => ⟨(FE_1.out.below hb ν).x, (FE_1.out.below hb ν).y, (FG_1.out.below hb ν).x, (FG_1.out.below hb ν).y, (FP_1.out.below hb ν).cell 0 (v := .int .i64 x) rfl, (FP_1.out.below hb ν).cell 1 (v := .int .i64 y) rfl⟩)
 refine wp_region_held_drew (S := fun w' => w'.cell? ⟨b, off + k * 2, none⟩ = some (.int .i64 (f k)) ∧ w'.cell? ⟨b, off + k * 2 + 1, none⟩ = some (.int .i64 (g k)) ∧ w'.cell? ⟨b, off + k2 * 2, none⟩ = some (.int .i64 (f k2)) ∧ w'.cell? ⟨b, off + k2 * 2 + 1, none⟩ = some (.int .i64 (g k2)) ∧ w'.cell? ⟨w.heap.size, 0, none⟩ = some (.int .i64 x) ∧ w'.cell? ⟨w.heap.size, 1, none⟩ = some (.int .i64 y)) (by kernel_rfl) (QF1.out _ RB1.out) (fun hHeld => ?_)
 refine tk 0 hHeld ?_
 refine tk 1 hHeld ?_
 refine tk 2 hHeld ?_
 refine tk 3 hHeld ?_
 refine tk 4 hHeld ?_
 refine tk 5 hHeld ?_
 refine tk 6 hHeld ?_
 refine tk 7 hHeld ?_
 refine tk 8 hHeld ?_
 refine tk 9 hHeld ?_
 refine tk 10 hHeld ?_
 refine tk 11 hHeld ?_
 refine tk 12 hHeld ?_
 refine cl 13 (fun K hK => ?_)
 go_simp
 refine (Zbn _ _ _ _ _ _ HP.out _).mono ?_
 rintro e w2 ⟨rfl, B⟩
 have RB2 := η (RB1.out.trans (B.mono RB1.out.size))
 clear B
 go_wp2_with fail
 refine hK.out _ _ (QF1.out _ RB2.out) (fun hHeld2 => ?_)
 clear hK K hHeld; have hHeld := hHeld2; clear hHeld2
 try simp only [Act.put, List.setIfInBounds_toArray, List.set_cons_zero, List.set_cons_succ]
 refine tk 14 hHeld ?_
 refine wpAnyH_done (by kernel_rfl) ?_ _
 have FE_2 := η (FE_1.out.below RB2.out ν)
 have FG_2 := η (FG_1.out.below RB2.out ν)
 have FP_2 := η (FP_1.out.below RB2.out ν)
 have HB2 := η (HB1.out.trans (RB2.out.mono HB1.out.size))
 clear hHeld HB1 FE_1 FG_1 FP_1
 go_wp2_with fail
 go_ret
 exact ⟨rfl, HB2.out⟩
theorem ZeO {n q : Nat} (h : q < n) : n - (intOf (.int .i64 ((q : Int) + 1))).toNat < n - (intOf (.int .i64 (q : Int))).toNat := by
 simp only [intOf]; omega
theorem ZgF {f g : Nat → Int} {n i j : Nat} (hi : i < n) (hj : j < n) (h1 : j ≠ i) (h2 : j ≠ (i + 1) % n) (h : sg (edg f g n i (f j) (g j)) ≠ ori f g n) : JU f g n = false := by
 cases hv : JU f g n with
 | false => rfl
 | true => exact absurd ((ZgC.1 hv).2.2 i j hi hj h1 h2) h
theorem ZgG {f g : Nat → Int} {n : Nat} (hin : inP n) (h : ∀ i, i < n → ∀ j, j < n → okAt f g n (ori f g n) i j = true) : JU f g n = !decide (ori f g n = 0) := by
 unfold JU
 rw [show allB (fun i => allB (okAt f g n (ori f g n) i) n) n = true from (Zbc _ _).2 fun i hi => (Zbc _ _).2 fun j hj => h i hi j hj, show decide (inP n) = true from by simpa using hin]
 simp
set_option maxRecDepth 20000 in
set_option maxHeartbeats 8000000 in
theorem ZfR (A : Option Addr) (n c : Nat) (f g : Nat → Int) (w : World) (hp : Pts w A n c f g) :
  Calls Tryz.prog 65 #[.slice A n c] w fun e w' => e = .returned (.bool (JU f g n)) ∧ Below w.heap.size w w' := by
 have hm := Nat.le_trans hp.cap hp.max
 have HP := η hp
 have HB0 := η (Below.refl w.heap.size w)
 by_cases hin : inP n
 rotate_left
 ·rw [Zdk hin]
  go_enter Tryz.func65, Tryz.ntmps65
  go_wp2_with fail
  refine (ZaL _ n c hm _).mono ?_
  rintro e w1 ⟨rfl, B⟩
  have HB1 := η (HB0.out.trans (B.mono HB0.out.size))
  clear B  HB0
  rw [show decide (inP n) = false from by simpa using hin]
  go_wp2_with fail
  go_ret
  exact ⟨rfl, HB1.out⟩
 have hn3 := hin.1; have hn64 := hin.2
 obtain ⟨b, off, rfl⟩ := hp.some (by omega)
 have hr := Zbl f g n
 clear hp
 go_enter Tryz.func65, Tryz.ntmps65
 go_wp2_with fail
 refine (ZaL _ n c hm _).mono ?_
 rintro e w1 ⟨rfl, B⟩
 have HB1 := η (HB0.out.trans (B.mono HB0.out.size))
 have FX_1 := η (HP.out.below B ν)
 clear B  HB0 HP
 rw [show decide (inP n) = true from by simpa using hin]
 go_wp2_with fail
 refine (ZaY _ n c f g _ FX_1.out).mono ?_
 rintro e w2 ⟨rfl, B⟩
 have HB2 := η (HB1.out.trans (B.mono HB1.out.size))
 have FX_2 := η (FX_1.out.below B ν)
 clear B  HB1 FX_1
 have HX := FX_2; have HBX := HB2
 obtain ⟨s, hs_⟩ : ∃ s, s = ori f g n := ⟨_, rfl⟩
 rw [← hs_] at hr ⊢
 have hs := η hs_; clear hs_
 go_wp2_with fail
 go_loopw [4] (fun i wr => ∃ k : Nat, k ≤ n ∧ i = .int .i64 (k : Int) ∧ (∀ i, i < k → ∀ j, j < n → okAt f g n s i j = true) ∧ Below w2.heap.size w2 wr) (fun i _ => n - (intOf i).toNat)
 case atStart => exact ⟨0, Nat.zero_le _, rfl, fun _ h => absurd h (Nat.not_lt_zero _), Below.refl _ _⟩
 case round =>
  obtain ⟨k, hk, rfl, hok, hb⟩ := hrel
  by_cases hlt : k < n
  ·have hw1 : wrap64 ((k : Int) + 1) = (k : Int) + 1 := by rw [← IntWalk.i64_left, IntKind.wrap_i64]; omega
   have hw2 : IntKind.i64.wrap ((k : Int) + 1) = (k : Int) + 1 := by rw [IntKind.wrap_i64]; omega
   have hk2 : (k + 1) % n < n := Nat.mod_lt _ (by omega)
   have hmod := ZcZ k n
   have hw3 : wrap64 (((k + 1) % n : Nat) : Int) = (((k + 1) % n : Nat) : Int) := by rw [← IntWalk.i64_left, IntKind.wrap_i64]; omega
   have hw4 : IntKind.i64.wrap (((k + 1) % n : Nat) : Int) = (((k + 1) % n : Nat) : Int) := by rw [IntKind.wrap_i64]; omega
   obtain ⟨k2, hK2_⟩ : ∃ k2, k2 = (k + 1) % n := ⟨_, rfl⟩
   rw [← hK2_] at hk2 hmod hw3 hw4
   have hK2 := η hK2_; clear hK2_
   have hnz : ¬ (n = 0) := by omega
   go_wp2_with fail
   go_loopw [5] (fun j wr2 => ∃ q : Nat, q ≤ n ∧ j = .int .i64 (q : Int) ∧ (∀ j, j < q → okAt f g n s k j = true) ∧ Below w2.heap.size w2 wr2) (fun j _ => n - (intOf j).toNat)
   case atStart => exact ⟨0, Nat.zero_le _, rfl, fun _ h => absurd h (Nat.not_lt_zero _), hb⟩
   case round =>
    obtain ⟨q, hq, rfl, hokq, hb2⟩ := hrel
    by_cases hq1 : q < n
    ·have hP := η (HX.out.below hb2 ν)
     have hb2' := η hb2; clear hb2
     have done_ : okAt f g n s k q = true → ∀ j, j < q + 1 → okAt f g n s k j = true := fun h j hj => by
      rcases (by omega : j < q ∨ j = q) with h' | rfl
      ·exact hokq j h'
      ·exact h
     have hokk : okAt f g n s k k = true := by simp [okAt, skip]
     have hok2 : okAt f g n s k k2 = true := by simp [okAt, skip, hK2.out]
     have hms := η (ZeO hq1)
     have hpos := η (show (.int .i64 ((q : Int) + 1) : Value) = .int .i64 ((q + 1 : Nat) : Int) from by simp)
     by_cases hqk : q = k
     ·have hrq := η (done_ (by rw [hqk]; exact hokk))
      clear done_ hokk hok2
      go_wp2_with fail
      go_roundw
      case rel => exact ⟨q + 1, hq1, by rw [← hqk]; exact hpos.out, hrq.out, hb2'.out⟩
      case measure => rw [← hqk]; exact hms.out
     by_cases hqk2 : q = k2
     ·have hrq := η (done_ (by rw [hqk2]; exact hok2))
      clear done_ hokk hok2
      go_wp2_with fail
      go_roundw
      case rel => exact ⟨q + 1, hq1, by rw [← hqk2]; exact hpos.out, hrq.out, hb2'.out⟩
      case measure => rw [← hqk2]; exact hms.out
     have hb1 : ((q : Int) != (k : Int)) = true := by simp; omega
     have hb3 : ((q : Int) != (k2 : Int)) = true := by simp; omega
     have c1 := (hP.out.one hq1).x
     have c2 := (hP.out.one hq1).y
     have hi := hP.out.isi q hq1
     by_cases hts : sg (edg f g n k (f q) (g q)) = s
     ·go_wp2_with fail
      refine (ZbW b off n c f g k (f q) (g q) hin hlt hi.1 hi.2 _ hP.out).mono ?_
      rintro e w9 ⟨rfl, B⟩
      rw [hts]
      have HB9 := η (hb2'.out.trans (B.mono hb2'.out.size)); clear B c1 c2
      go_wp2_with fail
      go_roundw
      case rel => exact ⟨q + 1, hq1, hpos.out, done_ (by simp [okAt, hts]), HB9.out⟩
      case measure => exact hms.out
     ·go_wp2_with fail
      refine (ZbW b off n c f g k (f q) (g q) hin hlt hi.1 hi.2 _ hP.out).mono ?_
      rintro e w9 ⟨rfl, B⟩
      have HB9 := η (hb2'.out.trans (B.mono hb2'.out.size)); clear B c1 c2
      have hbad := η (ZgF (f := f) (g := g) hlt hq1 hqk (by rw [← hK2.out]; exact hqk2) (by rw [← hs.out]; exact hts))
      generalize sg (edg f g n k (f q) (g q)) = t at *
      have hne : (t != s) = true := by simpa using hts
      go_wp2_with fail
      go_ret
      exact ⟨by rw [hbad.out]; rfl, HBX.out.trans (HB9.out.mono HBX.out.size)⟩
    ·have hqn : q = n := by omega
     rw [hqn] at hokq
     have hmk := η (ZeO hlt)
     have hpk := η (show (.int .i64 ((k : Int) + 1) : Value) = .int .i64 ((k + 1 : Nat) : Int) from by simp)
     have hb2' := η hb2; clear hb2
     go_wp2_with fail
     go_roundw
     case rel => exact ⟨k + 1, hlt, hpk.out, fun i hi j hj => by
      rcases Nat.lt_or_eq_of_le (Nat.le_of_lt_succ hi) with h | h
      ·exact hok i h j hj
      ·rw [h]; exact hokq j hj, hb2'.out⟩
     case measure => exact hmk.out
  ·obtain rfl : k = n := by omega
   have he := η (ZgG (f := f) (g := g) hin (fun i hi j hj => by rw [← hs.out]; exact hok i hi j hj))
   have hb' := η hb; clear hb
   by_cases h0 : s = 0
   ·subst h0
    go_wp2_with fail
    go_ret
    exact ⟨by rw [he.out, ← hs.out]; rfl, HBX.out.trans (hb'.out.mono HBX.out.size)⟩
   ·go_wp2_with fail
    go_ret
    exact ⟨by rw [he.out, ← hs.out]; simp [h0], HBX.out.trans (hb'.out.mono HBX.out.size)⟩
set_option maxRecDepth 20000 in
set_option maxHeartbeats 8000000 in
theorem Zfa (A : Option Addr) (n c : Nat) (f g : Nat → Int) (x y : Int) (hx : IsI x) (hy : IsI y) (w : World) (hp : Pts w A n c f g) :
  Calls Tryz.prog 99 #[.slice A n c, .agg #[.int .i64 x, .int .i64 y]] w fun e w' => e = .returned (.int .i64 (locP f g n x y)) ∧ Below w.heap.size w w' := by
 have hm := Nat.le_trans hp.cap hp.max
 have HP := η hp
 have HB0 := η (Below.refl w.heap.size w)
 by_cases hin : inP n
 rotate_left
 ·rw [Zi1 hin]
  go_enter Tryz.func99, Tryz.ntmps99
  go_wp2_with fail
  have B : Below w.heap.size w (w.alloc (.cells #[.int .i64 x, .int .i64 y] 23)) := (HB0.out.alloc HB0.out.size _)
  have C : Below w.heap.size w (w.alloc (.cells #[.int .i64 x, .int .i64 y] 23)) := ((Below.refl w.heap.size w).alloc ν _)
  have X0 : Bx (w.alloc (.cells #[.int .i64 x, .int .i64 y] 23)) (w.heap.size) #[.int .i64 x, .int .i64 y] 23 := by simpa using (Bx.new w #[.int .i64 x, .int .i64 y] 23)
  have HB1 := η B
  have FP_1 := η X0
  clear B C X0 HB0
  generalize (w.alloc (.cells #[.int .i64 x, .int .i64 y] 23)) = w1 at *
  skip
  refine (ZaL _ n c hm _).mono ?_
  rintro e w2 ⟨rfl, B⟩
  have HB2 := η (HB1.out.trans (B.mono HB1.out.size))
  have FP_2 := η (FP_1.out.below B ν)
  clear B  HB1 FP_1
  rw [show decide (inP n) = false from by simpa using hin]
  go_wp2_with fail
  go_ret
  exact ⟨rfl, HB2.out⟩
 have hn3 := hin.1; have hn64 := hin.2
 obtain ⟨b, off, rfl⟩ := hp.some (by omega)
 have hr := Zbl f g n
 clear hp
 go_enter Tryz.func99, Tryz.ntmps99
 go_wp2_with fail
 have B : Below w.heap.size w (w.alloc (.cells #[.int .i64 x, .int .i64 y] 23)) := (HB0.out.alloc HB0.out.size _)
 have C : Below w.heap.size w (w.alloc (.cells #[.int .i64 x, .int .i64 y] 23)) := ((Below.refl w.heap.size w).alloc ν _)
 have X0 : Bx (w.alloc (.cells #[.int .i64 x, .int .i64 y] 23)) (w.heap.size) #[.int .i64 x, .int .i64 y] 23 := by simpa using (Bx.new w #[.int .i64 x, .int .i64 y] 23)
 have FX_1 := η (HP.out.below C ν)
 have HB1 := η B
 have FP_1 := η X0
 clear B C X0 HB0 HP
 generalize (w.alloc (.cells #[.int .i64 x, .int .i64 y] 23)) = w1 at *
 skip
 refine (ZaL _ n c hm _).mono ?_
 rintro e w2 ⟨rfl, B⟩
 have HB2 := η (HB1.out.trans (B.mono HB1.out.size))
 have FX_2 := η (FX_1.out.below B ν)
 have FP_2 := η (FP_1.out.below B ν)
 clear B  HB1 FX_1 FP_1
 rw [show decide (inP n) = true from by simpa using hin]
 go_wp2_with fail
 refine (ZaY _ n c f g _ FX_2.out).mono ?_
 rintro e w3 ⟨rfl, B⟩
 have HB3 := η (HB2.out.trans (B.mono HB2.out.size))
 have FX_3 := η (FX_2.out.below B ν)
 have FP_3 := η (FP_2.out.below B ν)
 clear B  HB2 FX_2 FP_2
 have HX := FX_3; have HBX := HB3; have HPB := FP_3
 obtain ⟨s, hs_⟩ : ∃ s, s = ori f g n := ⟨_, rfl⟩
 rw [← hs_] at hr ⊢
 have hs := η hs_; clear hs_
 go_wp2_with fail
 go_loopw [6, 7] (fun o i wr => ∃ k : Nat, k ≤ n ∧ i = .int .i64 (k : Int) ∧ o = .int .i64 (minS (Jm f g n x y) k) ∧ Below w3.heap.size w3 wr) (fun _ i _ => n - (intOf i).toNat)
 case atStart => exact ⟨0, Nat.zero_le _, rfl, rfl, Below.refl _ _⟩
 case round =>
  obtain ⟨k, hk, rfl, rfl, hb⟩ := hrel
  by_cases hlt : k < n
  ·have hP := η (HX.out.below hb ν)
   have c1 := (HPB.out.below hb ν).cell 0 (v := .int .i64 x) rfl
   have c2 := (HPB.out.below hb ν).cell 1 (v := .int .i64 y) rfl
   have hb' := η hb; clear hb
   have hms := η (ZeO hlt)
   have hpos := η (show (.int .i64 ((k : Int) + 1) : Value) = .int .i64 ((k + 1 : Nat) : Int) from by simp)
   have hsd := Zbu f g n x y k
   have hpr : wrap64 (s * sg (edg f g n k x y)) = Jm f g n x y k := by rw [hs.out, show ori f g n * sg (edg f g n k x y) = Jm f g n x y k from rfl, ← IntWalk.i64_left, IntKind.wrap_i64]; omega
   have hpr2 : IntKind.i64.wrap (s * sg (edg f g n k x y)) = Jm f g n x y k := by rw [hs.out, show ori f g n * sg (edg f g n k x y) = Jm f g n x y k from rfl, IntKind.wrap_i64]; omega
   have hmin := η (show minS (Jm f g n x y) (k + 1) = min (minS (Jm f g n x y) k) (Jm f g n x y k) from rfl)
   generalize Jm f g n x y k = sd at *
   generalize hM : minS (Jm f g n x y) k = m0 at *
   clear hM
   go_wp2_with fail
   refine (ZbW b off n c f g k x y hin hlt hx hy _ hP.out).mono ?_
   rintro e w9 ⟨rfl, B⟩
   have HB9 := η (hb'.out.trans (B.mono hb'.out.size)); clear B c1 c2
   generalize sg (edg f g n k x y) = t at *
   go_wp2_with fail
   go_roundw
   case rel => exact ⟨k + 1, hlt, hpos.out, by rw [hmin.out, show min m0 sd = if sd < m0 then sd else m0 from by rw [Int.min_def]; split <;> split <;> omega], HB9.out⟩
   case measure => exact hms.out
  ·have hkn : k = n := by omega
   have he := η (ZiM (f := f) (g := g) (x := x) (y := y) hin)
   have hb' := η hb; clear hb
   go_wp2_with fail
   go_ret
   exact ⟨by rw [he.out, ← hkn]; rfl, HBX.out.trans (hb'.out.mono HBX.out.size)⟩
end Go.Proofs.YtjdiilkljgljkaaGreatDoor
