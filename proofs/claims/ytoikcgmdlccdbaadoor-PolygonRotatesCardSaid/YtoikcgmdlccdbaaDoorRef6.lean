/- Contracts of the reference of layer 6: products, minors, the determinant, its sign. -/
import Derived.Test.YtoikcgmdlccdbaaDoorRef3d
import Derived.Test.YtoikcgmdlccdbaaDoorRef3e
import Derived.Test.YtoikcgmdlccdbaaDoorBoxN
import Derived.Test.YtoikcgmdlccdbaaDoorGeo
namespace Go.Proofs.YtoikcgmdlccdbaaDoor
set_option linter.unusedVariables false
set_option linter.unusedSimpArgs false
open Go.RowKit Wd

theorem det_ref (ax ay bx b_ cx cy : Int) : bx * cy - b_ * cx - (ax * cy - ay * cx) + (ax * b_ - ay * bx) = det ax ay bx b_ cx cy := by unfold det; grind
theorem ref3_AddZ (A A' : Option Addr) (n c m c' : Nat) (x y z : Int) (hz : x + y = z) (w : World) (ha : Nm w A n c x) (hb : Nm w A' m c' y) (hn : n ≤ 99999) (hm : m ≤ 99999) :
    Calls Tryd.prog 87 #[.agg #[.int .i64 (sg x), .slice A n c], .agg #[.int .i64 (sg y), .slice A' m c']] w fun e w' => (∃ A2 k c2, e = .returned (.agg #[.int .i64 (sg z), .slice A2 k c2]) ∧ k ≤ max n m + 1 ∧ Nm w' A2 k c2 z) ∧ Below w.heap.size w w' := by
  subst hz; exact ref3_Add A A' n c m c' x y w ha hb hn hm
theorem ref3_SubZ (A A' : Option Addr) (n c m c' : Nat) (x y z : Int) (hz : x - y = z) (w : World) (ha : Nm w A n c x) (hb : Nm w A' m c' y) (hn : n ≤ 99999) (hm : m ≤ 99999) :
    Calls Tryd.prog 88 #[.agg #[.int .i64 (sg x), .slice A n c], .agg #[.int .i64 (sg y), .slice A' m c']] w fun e w' => (∃ A2 k c2, e = .returned (.agg #[.int .i64 (sg z), .slice A2 k c2]) ∧ k ≤ max n m + 1 ∧ Nm w' A2 k c2 z) ∧ Below w.heap.size w w' := by
  subst hz; exact ref3_Sub A A' n c m c' x y w ha hb hn hm
theorem ref3_MulZ (A A' : Option Addr) (n c m c' : Nat) (x y z : Int) (hz : x * y = z) (w : World) (ha : Nm w A n c x) (hb : Nm w A' m c' y) (hn : n ≤ 50000) (hm : m ≤ 49999) :
    Calls Tryd.prog 96 #[.agg #[.int .i64 (sg x), .slice A n c], .agg #[.int .i64 (sg y), .slice A' m c']] w fun e w' => (∃ A2 k c2, e = .returned (.agg #[.int .i64 (sg z), .slice A2 k c2]) ∧ k ≤ n + m ∧ Nm w' A2 k c2 z) ∧ Below w.heap.size w w' := by
  subst hz; exact ref3_Mul A A' n c m c' x y w ha hb hn hm
set_option maxHeartbeats 1000000 in
theorem ref6_product (a b : Int) (ha : IsI a) (hb : IsI b) (w : World) :
    Calls Tryd.prog 104 #[.int .i64 a, .int .i64 b] w fun e w' => (∃ A k c, e = .returned (.agg #[.int .i64 (sg (a * b)), .slice A k c]) ∧ k ≤ 8 ∧ Nm w' A k c (a * b)) ∧ Below w.heap.size w w' := by
  have HB0 := Lib.hid (Below.refl w.heap.size w)
  go_enter Tryd.func104, Tryd.ntmps104
  go_wp2_with fail
  have B : Below w.heap.size w (w.alloc (.cells #[.int .i64 0, .slice none 0 0] 97)) := (HB0.out.alloc HB0.out.size _)
  have C : Below w.heap.size w (w.alloc (.cells #[.int .i64 0, .slice none 0 0] 97)) := ((Below.refl w.heap.size w).alloc (Nat.le_refl _) _)
  have X0 : Bx (w.alloc (.cells #[.int .i64 0, .slice none 0 0] 97)) (w.heap.size) #[.int .i64 0, .slice none 0 0] 97 := by simpa using (Bx.new w #[.int .i64 0, .slice none 0 0] 97)
  have HB1 := Lib.hid B
  have FR_1 := Lib.hid X0
  clear B C X0 HB0 
  generalize (w.alloc (.cells #[.int .i64 0, .slice none 0 0] 97)) = w1 at *
  skip
  refine (ref3_Int a ha _).mono ?_
  rintro e w2 ⟨⟨A1, k1, c1, rfl, b1, N1⟩, B⟩
  have HB2 := Lib.hid (HB1.out.trans (B.mono HB1.out.size))
  have FR_2 := Lib.hid (FR_1.out.below B (Nat.le_refl _))
  have FA_2 := Lib.hid N1
  clear B N1 HB1 FR_1
  go_wp2_with fail
  refine (ref3_Int b hb _).mono ?_
  rintro e w3 ⟨⟨A2, k2, c2, rfl, b2, N2⟩, B⟩
  have HB3 := Lib.hid (HB2.out.trans (B.mono HB2.out.size))
  have FR_3 := Lib.hid (FR_2.out.below B (Nat.le_refl _))
  have FA_3 := Lib.hid (FA_2.out.below B (Nat.le_refl _))
  have FB_3 := Lib.hid N2
  clear B N2 HB2 FR_2 FA_2
  go_wp2_with fail
  refine (ref3_Mul _ _ _ _ _ _ _ _ _ FA_3.out FB_3.out (by omega) (by omega)).mono ?_
  rintro e w4 ⟨⟨A3, k3, c3, rfl, b3, N3⟩, B⟩
  have HB4 := Lib.hid (HB3.out.trans (B.mono HB3.out.size))
  have FR_4 := Lib.hid (FR_3.out.below B (Nat.le_refl _))
  have FA_4 := Lib.hid (FA_3.out.below B (Nat.le_refl _))
  have FB_4 := Lib.hid (FB_3.out.below B (Nat.le_refl _))
  have FC_4 := Lib.hid N3
  clear B N3 HB3 FR_3 FA_3 FB_3
  have q0 := FR_4.out.cell 0 (v := .int .i64 0) rfl; have q1 := FR_4.out.cell 1 (v := .slice none 0 0) rfl; have z0 := FR_4.out.free 0; have z1 := FR_4.out.free 1
  go_wp2_with fail
  have r0 := FR_4.out
  have r1 := r0.set 0 (.int .i64 (sg (a * b)))
  refine bodyPost_ret (v := .agg #[.int .i64 (sg (a * b)), .slice A3 k3 c3]) (by simp [results, Tryd.results104, go_sem, q0, q1]) rfl ⟨⟨A3, k3, c3, rfl, by omega, ((FC_4.out.setB r0 (by decide)).setB r1 (by decide))⟩, ?_⟩
  exact ((HB4.out.setCell (p := ⟨w.heap.size, 0, none⟩) (by simp <;> omega) _).setCell (p := ⟨w.heap.size, 1, none⟩) (by simp <;> omega) _)

set_option maxHeartbeats 1000000 in
theorem ref6_minor (ax ay bx b_ : Int) (h1 : IsI ax) (h2 : IsI ay) (h3 : IsI bx) (h4 : IsI b_) (w : World) :
    Calls Tryd.prog 89 #[.agg #[.int .i64 ax, .int .i64 ay], .agg #[.int .i64 bx, .int .i64 b_]] w fun e w' => (∃ A k c, e = .returned (.agg #[.int .i64 (sg (ax * b_ - ay * bx)), .slice A k c]) ∧ k ≤ 9 ∧ Nm w' A k c (ax * b_ - ay * bx)) ∧ Below w.heap.size w w' := by
  have HB0 := Lib.hid (Below.refl w.heap.size w)
  go_enter Tryd.func89, Tryd.ntmps89
  go_wp2_with fail
  have B : Below w.heap.size w (((w.alloc (.cells #[.int .i64 ax, .int .i64 ay] 28)).alloc (.cells #[.int .i64 bx, .int .i64 b_] 28)).alloc (.cells #[.int .i64 0, .slice none 0 0] 97)) := (((HB0.out.alloc HB0.out.size _).alloc (HB0.out.alloc HB0.out.size _).size _).alloc ((HB0.out.alloc HB0.out.size _).alloc (HB0.out.alloc HB0.out.size _).size _).size _)
  have C : Below w.heap.size w (((w.alloc (.cells #[.int .i64 ax, .int .i64 ay] 28)).alloc (.cells #[.int .i64 bx, .int .i64 b_] 28)).alloc (.cells #[.int .i64 0, .slice none 0 0] 97)) := ((((Below.refl w.heap.size w).alloc (Nat.le_refl _) _).alloc (by simp; try omega) _).alloc (by simp; try omega) _)
  have X0 : Bx (((w.alloc (.cells #[.int .i64 ax, .int .i64 ay] 28)).alloc (.cells #[.int .i64 bx, .int .i64 b_] 28)).alloc (.cells #[.int .i64 0, .slice none 0 0] 97)) (w.heap.size) #[.int .i64 ax, .int .i64 ay] 28 := by simpa using (((Bx.new w #[.int .i64 ax, .int .i64 ay] 28).alloc _).alloc _)
  have X1 : Bx (((w.alloc (.cells #[.int .i64 ax, .int .i64 ay] 28)).alloc (.cells #[.int .i64 bx, .int .i64 b_] 28)).alloc (.cells #[.int .i64 0, .slice none 0 0] 97)) (w.heap.size + 1) #[.int .i64 bx, .int .i64 b_] 28 := by simpa using ((Bx.new (w.alloc (.cells #[.int .i64 ax, .int .i64 ay] 28)) #[.int .i64 bx, .int .i64 b_] 28).alloc _)
  have X2 : Bx (((w.alloc (.cells #[.int .i64 ax, .int .i64 ay] 28)).alloc (.cells #[.int .i64 bx, .int .i64 b_] 28)).alloc (.cells #[.int .i64 0, .slice none 0 0] 97)) (w.heap.size + 1 + 1) #[.int .i64 0, .slice none 0 0] 97 := by simpa using (Bx.new ((w.alloc (.cells #[.int .i64 ax, .int .i64 ay] 28)).alloc (.cells #[.int .i64 bx, .int .i64 b_] 28)) #[.int .i64 0, .slice none 0 0] 97)
  have HB1 := Lib.hid B
  have FP_1 := Lib.hid X0
  have FQ_1 := Lib.hid X1
  have FR_1 := Lib.hid X2
  clear B C X0 X1 X2 HB0 
  generalize (((w.alloc (.cells #[.int .i64 ax, .int .i64 ay] 28)).alloc (.cells #[.int .i64 bx, .int .i64 b_] 28)).alloc (.cells #[.int .i64 0, .slice none 0 0] 97)) = w1 at *
  have RB1 := Lib.hid (below_drew0 w1)
  have QS1 := Lib.hid (show w1.cell? ⟨w.heap.size, 0, none⟩ = some (.int .i64 ax) ∧ w1.cell? ⟨w.heap.size, 1, none⟩ = some (.int .i64 ay) ∧ w1.cell? ⟨w.heap.size + 1, 0, none⟩ = some (.int .i64 bx) ∧ w1.cell? ⟨w.heap.size + 1, 1, none⟩ = some (.int .i64 b_) from ⟨FP_1.out.cell 0 (v := .int .i64 ax) rfl, FP_1.out.cell 1 (v := .int .i64 ay) rfl, FQ_1.out.cell 0 (v := .int .i64 bx) rfl, FQ_1.out.cell 1 (v := .int .i64 b_) rfl⟩)
  have QF1 := Lib.hid (show ∀ w', Below w1.heap.size w1 w' → w'.cell? ⟨w.heap.size, 0, none⟩ = some (.int .i64 ax) ∧ w'.cell? ⟨w.heap.size, 1, none⟩ = some (.int .i64 ay) ∧ w'.cell? ⟨w.heap.size + 1, 0, none⟩ = some (.int .i64 bx) ∧ w'.cell? ⟨w.heap.size + 1, 1, none⟩ = some (.int .i64 b_) from fun w' hb => ⟨(FP_1.out.below hb (Nat.le_refl _)).cell 0 (v := .int .i64 ax) rfl, (FP_1.out.below hb (Nat.le_refl _)).cell 1 (v := .int .i64 ay) rfl, (FQ_1.out.below hb (Nat.le_refl _)).cell 0 (v := .int .i64 bx) rfl, (FQ_1.out.below hb (Nat.le_refl _)).cell 1 (v := .int .i64 b_) rfl⟩)
  go_region_held3 (fun w' => w'.cell? ⟨w.heap.size, 0, none⟩ = some (.int .i64 ax) ∧ w'.cell? ⟨w.heap.size, 1, none⟩ = some (.int .i64 ay) ∧ w'.cell? ⟨w.heap.size + 1, 0, none⟩ = some (.int .i64 bx) ∧ w'.cell? ⟨w.heap.size + 1, 1, none⟩ = some (.int .i64 b_)) (first | with_reducible exact QF1.out _ RB4.out | with_reducible exact QF1.out _ RB3.out | with_reducible exact QF1.out _ RB2.out | with_reducible exact QS1.out | with_reducible exact QF1.out _ RB1.out | with_reducible exact ⟨keep_set (keep_set ((QF1.out _ RB4.out).1) (by simp <;> omega)) (by simp <;> omega), keep_set (keep_set ((QF1.out _ RB4.out).2.1) (by simp <;> omega)) (by simp <;> omega), keep_set (keep_set ((QF1.out _ RB4.out).2.2.1) (by simp <;> omega)) (by simp <;> omega), keep_set (keep_set ((QF1.out _ RB4.out).2.2.2) (by simp <;> omega)) (by simp <;> omega)⟩) (first
      | (go_at_call 88; have := RB3; clear this; refine (ref3_Sub P0 P1 p0 g0 p1 g1 _ _ _ RM0_3.out RM1_3.out (by omega) (by omega)).mono ?_; rintro e w4 ⟨⟨P2, p2, g2, rfl, b2, N2⟩, B⟩; have RB4 := Lib.hid (RB3.out.trans (B.mono RB3.out.size)); have RM0_4 := Lib.hid (RM0_3.out.below B (Nat.le_refl _)); have RM1_4 := Lib.hid (RM1_3.out.below B (Nat.le_refl _)); have RM2_4 := Lib.hid N2; clear B N2; have q0 := (FR_1.out.below RB4.out (Nat.le_refl _)).cell 0 (v := .int .i64 0) rfl; have q1 := (FR_1.out.below RB4.out (Nat.le_refl _)).cell 1 (v := .slice none 0 0) rfl; have z0 := (FR_1.out.below RB4.out (Nat.le_refl _)).free 0; have z1 := (FR_1.out.below RB4.out (Nat.le_refl _)).free 1)
      | (go_at_call 104; have := RB2; clear this; refine (ref6_product ay bx h2 h3 _).mono ?_; rintro e w3 ⟨⟨P1, p1, g1, rfl, b1, N1⟩, B⟩; have RB3 := Lib.hid (RB2.out.trans (B.mono RB2.out.size)); have RM0_3 := Lib.hid (RM0_2.out.below B (Nat.le_refl _)); have RM1_3 := Lib.hid N1; clear B N1)
      | (go_at_call 104; have := RB1; clear this; refine (ref6_product ax b_ h1 h4 _).mono ?_; rintro e w2 ⟨⟨P0, p0, g0, rfl, b0, N0⟩, B⟩; have RB2 := Lib.hid (RB1.out.trans (B.mono RB1.out.size)); have RM0_2 := Lib.hid N0; clear B N0))
  have FP_4 := Lib.hid (FP_1.out.below RB4.out (Nat.le_refl _))
  have FQ_4 := Lib.hid (FQ_1.out.below RB4.out (Nat.le_refl _))
  have FR_4 := Lib.hid (FR_1.out.below RB4.out (Nat.le_refl _))
  have HB4 := Lib.hid (HB1.out.trans (RB4.out.mono HB1.out.size))
  clear HB1 FP_1 FQ_1 FR_1
  go_wp2_with fail
  have r0 := FR_4.out
  have r1 := r0.set 0 (.int .i64 (sg (ax * b_ - ay * bx)))
  refine bodyPost_ret (v := .agg #[.int .i64 (sg (ax * b_ - ay * bx)), .slice P2 p2 g2]) (by simp [results, Tryd.results89, go_sem, q0, q1]) rfl ⟨⟨P2, p2, g2, rfl, by omega, ((RM2_4.out.setB r0 (by decide)).setB r1 (by decide))⟩, ?_⟩
  exact ((HB4.out.setCell (p := ⟨w.heap.size + 1 + 1, 0, none⟩) (by simp <;> omega) _).setCell (p := ⟨w.heap.size + 1 + 1, 1, none⟩) (by simp <;> omega) _)

set_option maxHeartbeats 1000000 in
theorem ref6_Value (ax ay bx b_ cx cy : Int) (hp : P3 ax ay bx b_ cx cy) (w : World) :
    Calls Tryd.prog 78 #[.agg #[.int .i64 ax, .int .i64 ay], .agg #[.int .i64 bx, .int .i64 b_], .agg #[.int .i64 cx, .int .i64 cy]] w fun e w' => (∃ A k c, e = .returned (.agg #[.int .i64 (sg (det ax ay bx b_ cx cy)), .slice A k c]) ∧ k ≤ 11 ∧ Nm w' A k c (det ax ay bx b_ cx cy)) ∧ Below w.heap.size w w' := by
  have HB0 := Lib.hid (Below.refl w.heap.size w)
  go_enter Tryd.func78, Tryd.ntmps78
  go_wp2_with fail
  have B : Below w.heap.size w ((((w.alloc (.cells #[.int .i64 ax, .int .i64 ay] 28)).alloc (.cells #[.int .i64 bx, .int .i64 b_] 28)).alloc (.cells #[.int .i64 cx, .int .i64 cy] 28)).alloc (.cells #[.int .i64 0, .slice none 0 0] 97)) := ((((HB0.out.alloc HB0.out.size _).alloc (HB0.out.alloc HB0.out.size _).size _).alloc ((HB0.out.alloc HB0.out.size _).alloc (HB0.out.alloc HB0.out.size _).size _).size _).alloc (((HB0.out.alloc HB0.out.size _).alloc (HB0.out.alloc HB0.out.size _).size _).alloc ((HB0.out.alloc HB0.out.size _).alloc (HB0.out.alloc HB0.out.size _).size _).size _).size _)
  have C : Below w.heap.size w ((((w.alloc (.cells #[.int .i64 ax, .int .i64 ay] 28)).alloc (.cells #[.int .i64 bx, .int .i64 b_] 28)).alloc (.cells #[.int .i64 cx, .int .i64 cy] 28)).alloc (.cells #[.int .i64 0, .slice none 0 0] 97)) := (((((Below.refl w.heap.size w).alloc (Nat.le_refl _) _).alloc (by simp; try omega) _).alloc (by simp; try omega) _).alloc (by simp; try omega) _)
  have X0 : Bx ((((w.alloc (.cells #[.int .i64 ax, .int .i64 ay] 28)).alloc (.cells #[.int .i64 bx, .int .i64 b_] 28)).alloc (.cells #[.int .i64 cx, .int .i64 cy] 28)).alloc (.cells #[.int .i64 0, .slice none 0 0] 97)) (w.heap.size) #[.int .i64 ax, .int .i64 ay] 28 := by simpa using ((((Bx.new w #[.int .i64 ax, .int .i64 ay] 28).alloc _).alloc _).alloc _)
  have X1 : Bx ((((w.alloc (.cells #[.int .i64 ax, .int .i64 ay] 28)).alloc (.cells #[.int .i64 bx, .int .i64 b_] 28)).alloc (.cells #[.int .i64 cx, .int .i64 cy] 28)).alloc (.cells #[.int .i64 0, .slice none 0 0] 97)) (w.heap.size + 1) #[.int .i64 bx, .int .i64 b_] 28 := by simpa using (((Bx.new (w.alloc (.cells #[.int .i64 ax, .int .i64 ay] 28)) #[.int .i64 bx, .int .i64 b_] 28).alloc _).alloc _)
  have X2 : Bx ((((w.alloc (.cells #[.int .i64 ax, .int .i64 ay] 28)).alloc (.cells #[.int .i64 bx, .int .i64 b_] 28)).alloc (.cells #[.int .i64 cx, .int .i64 cy] 28)).alloc (.cells #[.int .i64 0, .slice none 0 0] 97)) (w.heap.size + 1 + 1) #[.int .i64 cx, .int .i64 cy] 28 := by simpa using ((Bx.new ((w.alloc (.cells #[.int .i64 ax, .int .i64 ay] 28)).alloc (.cells #[.int .i64 bx, .int .i64 b_] 28)) #[.int .i64 cx, .int .i64 cy] 28).alloc _)
  have X3 : Bx ((((w.alloc (.cells #[.int .i64 ax, .int .i64 ay] 28)).alloc (.cells #[.int .i64 bx, .int .i64 b_] 28)).alloc (.cells #[.int .i64 cx, .int .i64 cy] 28)).alloc (.cells #[.int .i64 0, .slice none 0 0] 97)) (w.heap.size + 1 + 1 + 1) #[.int .i64 0, .slice none 0 0] 97 := by simpa using (Bx.new (((w.alloc (.cells #[.int .i64 ax, .int .i64 ay] 28)).alloc (.cells #[.int .i64 bx, .int .i64 b_] 28)).alloc (.cells #[.int .i64 cx, .int .i64 cy] 28)) #[.int .i64 0, .slice none 0 0] 97)
  have HB1 := Lib.hid B
  have FP_1 := Lib.hid X0
  have FQ_1 := Lib.hid X1
  have FT_1 := Lib.hid X2
  have FR_1 := Lib.hid X3
  clear B C X0 X1 X2 X3 HB0 
  generalize ((((w.alloc (.cells #[.int .i64 ax, .int .i64 ay] 28)).alloc (.cells #[.int .i64 bx, .int .i64 b_] 28)).alloc (.cells #[.int .i64 cx, .int .i64 cy] 28)).alloc (.cells #[.int .i64 0, .slice none 0 0] 97)) = w1 at *
  have RB1 := Lib.hid (below_drew0 w1)
  have QS1 := Lib.hid (show w1.cell? ⟨w.heap.size, 0, none⟩ = some (.int .i64 ax) ∧ w1.cell? ⟨w.heap.size, 1, none⟩ = some (.int .i64 ay) ∧ w1.cell? ⟨w.heap.size + 1, 0, none⟩ = some (.int .i64 bx) ∧ w1.cell? ⟨w.heap.size + 1, 1, none⟩ = some (.int .i64 b_) ∧ w1.cell? ⟨w.heap.size + 1 + 1, 0, none⟩ = some (.int .i64 cx) ∧ w1.cell? ⟨w.heap.size + 1 + 1, 1, none⟩ = some (.int .i64 cy) from ⟨FP_1.out.cell 0 (v := .int .i64 ax) rfl, FP_1.out.cell 1 (v := .int .i64 ay) rfl, FQ_1.out.cell 0 (v := .int .i64 bx) rfl, FQ_1.out.cell 1 (v := .int .i64 b_) rfl, FT_1.out.cell 0 (v := .int .i64 cx) rfl, FT_1.out.cell 1 (v := .int .i64 cy) rfl⟩)
  have QF1 := Lib.hid (show ∀ w', Below w1.heap.size w1 w' → w'.cell? ⟨w.heap.size, 0, none⟩ = some (.int .i64 ax) ∧ w'.cell? ⟨w.heap.size, 1, none⟩ = some (.int .i64 ay) ∧ w'.cell? ⟨w.heap.size + 1, 0, none⟩ = some (.int .i64 bx) ∧ w'.cell? ⟨w.heap.size + 1, 1, none⟩ = some (.int .i64 b_) ∧ w'.cell? ⟨w.heap.size + 1 + 1, 0, none⟩ = some (.int .i64 cx) ∧ w'.cell? ⟨w.heap.size + 1 + 1, 1, none⟩ = some (.int .i64 cy) from fun w' hb => ⟨(FP_1.out.below hb (Nat.le_refl _)).cell 0 (v := .int .i64 ax) rfl, (FP_1.out.below hb (Nat.le_refl _)).cell 1 (v := .int .i64 ay) rfl, (FQ_1.out.below hb (Nat.le_refl _)).cell 0 (v := .int .i64 bx) rfl, (FQ_1.out.below hb (Nat.le_refl _)).cell 1 (v := .int .i64 b_) rfl, (FT_1.out.below hb (Nat.le_refl _)).cell 0 (v := .int .i64 cx) rfl, (FT_1.out.below hb (Nat.le_refl _)).cell 1 (v := .int .i64 cy) rfl⟩)
  go_region_held3 (fun w' => w'.cell? ⟨w.heap.size, 0, none⟩ = some (.int .i64 ax) ∧ w'.cell? ⟨w.heap.size, 1, none⟩ = some (.int .i64 ay) ∧ w'.cell? ⟨w.heap.size + 1, 0, none⟩ = some (.int .i64 bx) ∧ w'.cell? ⟨w.heap.size + 1, 1, none⟩ = some (.int .i64 b_) ∧ w'.cell? ⟨w.heap.size + 1 + 1, 0, none⟩ = some (.int .i64 cx) ∧ w'.cell? ⟨w.heap.size + 1 + 1, 1, none⟩ = some (.int .i64 cy)) (first | with_reducible exact QF1.out _ RB6.out | with_reducible exact QF1.out _ RB5.out | with_reducible exact QF1.out _ RB4.out | with_reducible exact QF1.out _ RB3.out | with_reducible exact QF1.out _ RB2.out | with_reducible exact QS1.out | with_reducible exact QF1.out _ RB1.out | with_reducible exact ⟨keep_set (keep_set ((QF1.out _ RB6.out).1) (by simp <;> omega)) (by simp <;> omega), keep_set (keep_set ((QF1.out _ RB6.out).2.1) (by simp <;> omega)) (by simp <;> omega), keep_set (keep_set ((QF1.out _ RB6.out).2.2.1) (by simp <;> omega)) (by simp <;> omega), keep_set (keep_set ((QF1.out _ RB6.out).2.2.2.1) (by simp <;> omega)) (by simp <;> omega), keep_set (keep_set ((QF1.out _ RB6.out).2.2.2.2.1) (by simp <;> omega)) (by simp <;> omega), keep_set (keep_set ((QF1.out _ RB6.out).2.2.2.2.2) (by simp <;> omega)) (by simp <;> omega)⟩) (first
      | (go_at_call 87; have := RB5; clear this; refine (ref3_AddZ P2 P3 p2 g2 p3 g3 _ _ _ (det_ref ax ay bx b_ cx cy) _ RM2_5.out RM3_5.out (by omega) (by omega)).mono ?_; rintro e w6 ⟨⟨P4, p4, g4, rfl, b4, N4⟩, B⟩; have RB6 := Lib.hid (RB5.out.trans (B.mono RB5.out.size)); have RM0_6 := Lib.hid (RM0_5.out.below B (Nat.le_refl _)); have RM1_6 := Lib.hid (RM1_5.out.below B (Nat.le_refl _)); have RM2_6 := Lib.hid (RM2_5.out.below B (Nat.le_refl _)); have RM3_6 := Lib.hid (RM3_5.out.below B (Nat.le_refl _)); have RM4_6 := Lib.hid N4; clear B N4; have q0 := (FR_1.out.below RB6.out (Nat.le_refl _)).cell 0 (v := .int .i64 0) rfl; have q1 := (FR_1.out.below RB6.out (Nat.le_refl _)).cell 1 (v := .slice none 0 0) rfl; have z0 := (FR_1.out.below RB6.out (Nat.le_refl _)).free 0; have z1 := (FR_1.out.below RB6.out (Nat.le_refl _)).free 1)
      | (go_at_call 89; have := RB4; clear this; refine (ref6_minor ax ay bx b_ hp.a hp.b hp.c hp.d _).mono ?_; rintro e w5 ⟨⟨P3, p3, g3, rfl, b3, N3⟩, B⟩; have RB5 := Lib.hid (RB4.out.trans (B.mono RB4.out.size)); have RM0_5 := Lib.hid (RM0_4.out.below B (Nat.le_refl _)); have RM1_5 := Lib.hid (RM1_4.out.below B (Nat.le_refl _)); have RM2_5 := Lib.hid (RM2_4.out.below B (Nat.le_refl _)); have RM3_5 := Lib.hid N3; clear B N3)
      | (go_at_call 88; have := RB3; clear this; refine (ref3_Sub P0 P1 p0 g0 p1 g1 _ _ _ RM0_3.out RM1_3.out (by omega) (by omega)).mono ?_; rintro e w4 ⟨⟨P2, p2, g2, rfl, b2, N2⟩, B⟩; have RB4 := Lib.hid (RB3.out.trans (B.mono RB3.out.size)); have RM0_4 := Lib.hid (RM0_3.out.below B (Nat.le_refl _)); have RM1_4 := Lib.hid (RM1_3.out.below B (Nat.le_refl _)); have RM2_4 := Lib.hid N2; clear B N2)
      | (go_at_call 89; have := RB2; clear this; refine (ref6_minor ax ay cx cy hp.a hp.b hp.e hp.f _).mono ?_; rintro e w3 ⟨⟨P1, p1, g1, rfl, b1, N1⟩, B⟩; have RB3 := Lib.hid (RB2.out.trans (B.mono RB2.out.size)); have RM0_3 := Lib.hid (RM0_2.out.below B (Nat.le_refl _)); have RM1_3 := Lib.hid N1; clear B N1)
      | (go_at_call 89; have := RB1; clear this; refine (ref6_minor bx b_ cx cy hp.c hp.d hp.e hp.f _).mono ?_; rintro e w2 ⟨⟨P0, p0, g0, rfl, b0, N0⟩, B⟩; have RB2 := Lib.hid (RB1.out.trans (B.mono RB1.out.size)); have RM0_2 := Lib.hid N0; clear B N0))
  have FP_6 := Lib.hid (FP_1.out.below RB6.out (Nat.le_refl _))
  have FQ_6 := Lib.hid (FQ_1.out.below RB6.out (Nat.le_refl _))
  have FT_6 := Lib.hid (FT_1.out.below RB6.out (Nat.le_refl _))
  have FR_6 := Lib.hid (FR_1.out.below RB6.out (Nat.le_refl _))
  have HB6 := Lib.hid (HB1.out.trans (RB6.out.mono HB1.out.size))
  clear HB1 FP_1 FQ_1 FT_1 FR_1
  go_wp2_with fail
  have r0 := FR_6.out
  have r1 := r0.set 0 (.int .i64 (sg (det ax ay bx b_ cx cy)))
  refine bodyPost_ret (v := .agg #[.int .i64 (sg (det ax ay bx b_ cx cy)), .slice P4 p4 g4]) (by simp [results, Tryd.results78, go_sem, q0, q1]) rfl ⟨⟨P4, p4, g4, rfl, by omega, ((RM4_6.out.setB r0 (by decide)).setB r1 (by decide))⟩, ?_⟩
  exact ((HB6.out.setCell (p := ⟨w.heap.size + 1 + 1 + 1, 0, none⟩) (by simp <;> omega) _).setCell (p := ⟨w.heap.size + 1 + 1 + 1, 1, none⟩) (by simp <;> omega) _)

set_option maxHeartbeats 1000000 in
theorem ref6_Sign (ax ay bx b_ cx cy : Int) (hp : P3 ax ay bx b_ cx cy) (w : World) :
    Calls Tryd.prog 59 #[.agg #[.int .i64 ax, .int .i64 ay], .agg #[.int .i64 bx, .int .i64 b_], .agg #[.int .i64 cx, .int .i64 cy]] w fun e w' => e = .returned (.int .i64 (sg (det ax ay bx b_ cx cy))) ∧ Below w.heap.size w w' := by
  have HB0 := Lib.hid (Below.refl w.heap.size w)
  have hfd : ∀ (s : Int) (V : Option Addr) (k c : Nat) (w : World), (Instr.field 97 (.agg #[.int .i64 s, .slice V k c]) 0).run Tryd.prog w = .ok (.int .i64 s) w := fun _ _ _ _ _ => by kernel_rfl
  go_enter Tryd.func59, Tryd.ntmps59
  go_wp2_with fail
  refine (ref6_Value _ _ _ _ _ _ hp _).mono ?_
  rintro e w1 ⟨⟨A1, k1, c1, rfl, b1, N1⟩, B⟩
  have HB1 := Lib.hid ((((HB0.out.alloc HB0.out.size _).alloc (HB0.out.alloc HB0.out.size _).size _).alloc ((HB0.out.alloc HB0.out.size _).alloc (HB0.out.alloc HB0.out.size _).size _).size _).trans (B.mono (((HB0.out.alloc HB0.out.size _).alloc (HB0.out.alloc HB0.out.size _).size _).alloc ((HB0.out.alloc HB0.out.size _).alloc (HB0.out.alloc HB0.out.size _).size _).size _).size))
  clear B  HB0
  clear N1
  go_wp2_with fail
  go_ret
  exact ⟨rfl, HB1.out⟩

end Go.Proofs.YtoikcgmdlccdbaaDoor
