/- Contracts of package diff: Coordinate, Between, the products, Neg. An integer of two limbs is a difference of coordinates. -/
import Derived.Test.YtoikcgmdlccdbaaDoorLimb2
import Derived.Test.YtoikcgmdlccdbaaDoorLimb3
import Derived.Test.YtoikcgmdlccdbaaDoorBox
namespace Go.Proofs.YtoikcgmdlccdbaaDoor
set_option linter.unusedVariables false
set_option linter.unusedSimpArgs false
open Go.RowKit Wd

theorem fit_sub {x y : Int} (hx : IsI x) (hy : IsI y) : Fit 2 (x - y) := by
  unfold Fit IsI at *
  rw [show S 2 = 340282366920938463463374607431768211456 from rfl]; omega
def vB (n m : Nat) : Bool := decide (n = 2 ∧ m = 2)
theorem vB_false {n m : Nat} (h : vB n m = false) : n ≠ 2 ∨ m ≠ 2 := by simp [vB] at h; omega
theorem vB_true {n m : Nat} (h : vB n m = true) : n = 2 ∧ m = 2 := by simpa [vB] using h
theorem ne2 {n : Nat} (h : n ≠ 2) : ((n : Int) != 2) = true := by simp; omega

set_option maxHeartbeats 1000000 in
theorem diff_is1 (bb : Nat) (A0 : Option Addr) (n0 c0 : Nat) (A1 : Option Addr) (n1 c1 : Nat) (w : World) (m0 : n0 ≤ maxLen) (m1 : n1 ≤ maxLen) (g0 : w.cell? ⟨bb, 0, none⟩ = some (.slice A0 n0 c0)) (g1 : w.cell? ⟨bb, 1, none⟩ = some (.slice A1 n1 c1)) :
    Calls Tryd.prog 118 #[.slice (some ⟨bb, 0, none⟩) 1 1] w fun e w' => e = .returned (.bool (vB n0 n1)) ∧ Below w.heap.size w w' := by
  have l0 : bb < w.heap.size := lt_of_cell' g0
  have l1 : bb < w.heap.size := lt_of_cell' g1
  unfold maxLen at m0 m1
  by_cases h0 : n0 = 2
  rotate_left
  · have e0 := ne2 h0
    rw [show (vB n0 n1) = false from by simp [vB, h0]]
    go_enter Tryd.func118, Tryd.ntmps118
    go_wp2
    refine wp_loop_rounds 2 ?_
    rw [rounds_succ]
    go_wp2
    go_ret
    exact ⟨rfl, ((Below.refl w.heap.size w).alloc (Nat.le_refl _) _)⟩
  subst h0
  by_cases h1 : n1 = 2
  rotate_left
  · have e1 := ne2 h1
    rw [show (vB 2 n1) = false from by simp [vB, h1]]
    go_enter Tryd.func118, Tryd.ntmps118
    go_wp2
    refine wp_loop_rounds 2 ?_
    rw [rounds_succ]
    go_wp2
    go_ret
    exact ⟨rfl, ((Below.refl w.heap.size w).alloc (Nat.le_refl _) _)⟩
  subst h1
  rw [show (vB 2 2) = true from rfl]
  go_enter Tryd.func118, Tryd.ntmps118
  go_wp2
  refine wp_loop_rounds 2 ?_
  rw [rounds_succ]
  go_wp2
  rw [rounds_succ]
  go_wp2
  go_ret
  exact ⟨rfl, ((Below.refl w.heap.size w).alloc (Nat.le_refl _) _)⟩

set_option maxHeartbeats 1000000 in
theorem diff_is2 (bb : Nat) (A0 : Option Addr) (n0 c0 : Nat) (A1 : Option Addr) (n1 c1 : Nat) (A2 : Option Addr) (n2 c2 : Nat) (A3 : Option Addr) (n3 c3 : Nat) (w : World) (m0 : n0 ≤ maxLen) (m1 : n1 ≤ maxLen) (m2 : n2 ≤ maxLen) (m3 : n3 ≤ maxLen) (g0 : w.cell? ⟨bb, 0, none⟩ = some (.slice A0 n0 c0)) (g1 : w.cell? ⟨bb, 1, none⟩ = some (.slice A1 n1 c1)) (g2 : w.cell? ⟨bb, 2, none⟩ = some (.slice A2 n2 c2)) (g3 : w.cell? ⟨bb, 3, none⟩ = some (.slice A3 n3 c3)) :
    Calls Tryd.prog 118 #[.slice (some ⟨bb, 0, none⟩) 2 2] w fun e w' => e = .returned (.bool (vB n0 n1 && vB n2 n3)) ∧ Below w.heap.size w w' := by
  have l0 : bb < w.heap.size := lt_of_cell' g0
  have l1 : bb < w.heap.size := lt_of_cell' g1
  have l2 : bb < w.heap.size := lt_of_cell' g2
  have l3 : bb < w.heap.size := lt_of_cell' g3
  unfold maxLen at m0 m1 m2 m3
  by_cases h0 : n0 = 2
  rotate_left
  · have e0 := ne2 h0
    rw [show (vB n0 n1 && vB n2 n3) = false from by simp [vB, h0]]
    go_enter Tryd.func118, Tryd.ntmps118
    go_wp2
    refine wp_loop_rounds 3 ?_
    rw [rounds_succ]
    go_wp2
    go_ret
    exact ⟨rfl, ((Below.refl w.heap.size w).alloc (Nat.le_refl _) _)⟩
  subst h0
  by_cases h1 : n1 = 2
  rotate_left
  · have e1 := ne2 h1
    rw [show (vB 2 n1 && vB n2 n3) = false from by simp [vB, h1]]
    go_enter Tryd.func118, Tryd.ntmps118
    go_wp2
    refine wp_loop_rounds 3 ?_
    rw [rounds_succ]
    go_wp2
    go_ret
    exact ⟨rfl, ((Below.refl w.heap.size w).alloc (Nat.le_refl _) _)⟩
  subst h1
  by_cases h2 : n2 = 2
  rotate_left
  · have e2 := ne2 h2
    rw [show (vB 2 2 && vB n2 n3) = false from by simp [vB, h2]]
    go_enter Tryd.func118, Tryd.ntmps118
    go_wp2
    refine wp_loop_rounds 3 ?_
    rw [rounds_succ]
    go_wp2
    rw [rounds_succ]
    go_wp2
    go_ret
    exact ⟨rfl, (((Below.refl w.heap.size w).alloc (Nat.le_refl _) _).alloc (by simp; try omega) _)⟩
  subst h2
  by_cases h3 : n3 = 2
  rotate_left
  · have e3 := ne2 h3
    rw [show (vB 2 2 && vB 2 n3) = false from by simp [vB, h3]]
    go_enter Tryd.func118, Tryd.ntmps118
    go_wp2
    refine wp_loop_rounds 3 ?_
    rw [rounds_succ]
    go_wp2
    rw [rounds_succ]
    go_wp2
    go_ret
    exact ⟨rfl, (((Below.refl w.heap.size w).alloc (Nat.le_refl _) _).alloc (by simp; try omega) _)⟩
  subst h3
  rw [show (vB 2 2 && vB 2 2) = true from rfl]
  go_enter Tryd.func118, Tryd.ntmps118
  go_wp2
  refine wp_loop_rounds 3 ?_
  rw [rounds_succ]
  go_wp2
  rw [rounds_succ]
  go_wp2
  rw [rounds_succ]
  go_wp2
  go_ret
  exact ⟨rfl, (((Below.refl w.heap.size w).alloc (Nat.le_refl _) _).alloc (by simp; try omega) _)⟩

set_option maxHeartbeats 1000000 in
theorem diff_Coordinate (a b : Int) (ha : IsI a) (hb : IsI b) (w : World) :
    Calls Tryd.prog 110 #[.int .i64 a, .int .i64 b] w fun e w' => (∃ A c, e = .returned (.slice A 2 c) ∧ Sl w' .u64 A 2 c (lmb (a - b))) ∧ Below w.heap.size w w' := by
  have HB0 := Lib.hid (Below.refl w.heap.size w)
  go_enter Tryd.func110, Tryd.ntmps110
  go_wp2_with fail
  refine (limb_From a 2 2 rfl ha rfl _).mono ?_
  rintro e w1 ⟨A1, c1, rfl, SA, B⟩
  have HB1 := Lib.hid (HB0.out.trans (B.mono HB0.out.size))
  have FA_1 := Lib.hid SA
  clear B SA HB0
  go_wp2_with fail
  refine (limb_From b 2 2 rfl hb rfl _).mono ?_
  rintro e w2 ⟨A2, c2, rfl, SB, B⟩
  have HB2 := Lib.hid (HB1.out.trans (B.mono HB1.out.size))
  have FA_2 := Lib.hid (FA_1.out.below B (Nat.le_refl _))
  have FB_2 := Lib.hid SB
  clear B SB HB1 FA_1
  go_wp2_with fail
  refine (limb_Sub _ _ _ _ _ _ _ _ FA_2.out FB_2.out rfl).mono ?_
  rintro e w3 ⟨A3, c3, rfl, SC, B⟩
  have HB3 := Lib.hid (HB2.out.trans (B.mono HB2.out.size))
  have FA_3 := Lib.hid (FA_2.out.below B (Nat.le_refl _))
  have FB_3 := Lib.hid (FB_2.out.below B (Nat.le_refl _))
  have FC_3 := Lib.hid SC
  clear B SC HB2 FA_2 FB_2
  go_wp2_with fail
  go_ret
  exact ⟨⟨_, _, rfl, FC_3.out⟩, HB3.out⟩

set_option maxHeartbeats 1000000 in
theorem diff_Between (ax ay bx b_ : Int) (h1 : IsI ax) (h2 : IsI ay) (h3 : IsI bx) (h4 : IsI b_) (w : World) :
    Calls Tryd.prog 94 #[.agg #[.int .i64 ax, .int .i64 ay], .agg #[.int .i64 bx, .int .i64 b_]] w fun e w' => (∃ A c A' c', e = .returned (.agg #[.slice A 2 c, .slice A' 2 c']) ∧ Sl w' .u64 A 2 c (lmb (bx - ax)) ∧ Sl w' .u64 A' 2 c' (lmb (b_ - ay))) ∧ Below w.heap.size w w' := by
  have HB0 := Lib.hid (Below.refl w.heap.size w)
  go_enter Tryd.func94, Tryd.ntmps94
  go_wp2_with fail
  have B : Below w.heap.size w (((w.alloc (.cells #[.int .i64 ax, .int .i64 ay] 28)).alloc (.cells #[.int .i64 bx, .int .i64 b_] 28)).alloc (.cells #[.slice none 0 0, .slice none 0 0] 113)) := (((HB0.out.alloc HB0.out.size _).alloc (HB0.out.alloc HB0.out.size _).size _).alloc ((HB0.out.alloc HB0.out.size _).alloc (HB0.out.alloc HB0.out.size _).size _).size _)
  have C : Below w.heap.size w (((w.alloc (.cells #[.int .i64 ax, .int .i64 ay] 28)).alloc (.cells #[.int .i64 bx, .int .i64 b_] 28)).alloc (.cells #[.slice none 0 0, .slice none 0 0] 113)) := ((((Below.refl w.heap.size w).alloc (Nat.le_refl _) _).alloc (by simp; try omega) _).alloc (by simp; try omega) _)
  have X0 : Bx (((w.alloc (.cells #[.int .i64 ax, .int .i64 ay] 28)).alloc (.cells #[.int .i64 bx, .int .i64 b_] 28)).alloc (.cells #[.slice none 0 0, .slice none 0 0] 113)) (w.heap.size) #[.int .i64 ax, .int .i64 ay] 28 := by simpa using (((Bx.new w #[.int .i64 ax, .int .i64 ay] 28).alloc _).alloc _)
  have X1 : Bx (((w.alloc (.cells #[.int .i64 ax, .int .i64 ay] 28)).alloc (.cells #[.int .i64 bx, .int .i64 b_] 28)).alloc (.cells #[.slice none 0 0, .slice none 0 0] 113)) (w.heap.size + 1) #[.int .i64 bx, .int .i64 b_] 28 := by simpa using ((Bx.new (w.alloc (.cells #[.int .i64 ax, .int .i64 ay] 28)) #[.int .i64 bx, .int .i64 b_] 28).alloc _)
  have X2 : Bx (((w.alloc (.cells #[.int .i64 ax, .int .i64 ay] 28)).alloc (.cells #[.int .i64 bx, .int .i64 b_] 28)).alloc (.cells #[.slice none 0 0, .slice none 0 0] 113)) (w.heap.size + 1 + 1) #[.slice none 0 0, .slice none 0 0] 113 := by simpa using (Bx.new ((w.alloc (.cells #[.int .i64 ax, .int .i64 ay] 28)).alloc (.cells #[.int .i64 bx, .int .i64 b_] 28)) #[.slice none 0 0, .slice none 0 0] 113)
  have HB1 := Lib.hid B
  have FP_1 := Lib.hid X0
  have FQ_1 := Lib.hid X1
  have FR_1 := Lib.hid X2
  clear B C X0 X1 X2 HB0 
  generalize (((w.alloc (.cells #[.int .i64 ax, .int .i64 ay] 28)).alloc (.cells #[.int .i64 bx, .int .i64 b_] 28)).alloc (.cells #[.slice none 0 0, .slice none 0 0] 113)) = w1 at *
  have RB1 := Lib.hid (below_drew0 w1)
  have QS1 := Lib.hid (show w1.cell? ⟨w.heap.size, 0, none⟩ = some (.int .i64 ax) ∧ w1.cell? ⟨w.heap.size, 1, none⟩ = some (.int .i64 ay) ∧ w1.cell? ⟨w.heap.size + 1, 0, none⟩ = some (.int .i64 bx) ∧ w1.cell? ⟨w.heap.size + 1, 1, none⟩ = some (.int .i64 b_) from ⟨FP_1.out.cell 0 (v := .int .i64 ax) rfl, FP_1.out.cell 1 (v := .int .i64 ay) rfl, FQ_1.out.cell 0 (v := .int .i64 bx) rfl, FQ_1.out.cell 1 (v := .int .i64 b_) rfl⟩)
  have QF1 := Lib.hid (show ∀ w', Below w1.heap.size w1 w' → w'.cell? ⟨w.heap.size, 0, none⟩ = some (.int .i64 ax) ∧ w'.cell? ⟨w.heap.size, 1, none⟩ = some (.int .i64 ay) ∧ w'.cell? ⟨w.heap.size + 1, 0, none⟩ = some (.int .i64 bx) ∧ w'.cell? ⟨w.heap.size + 1, 1, none⟩ = some (.int .i64 b_) from fun w' hb => ⟨(FP_1.out.below hb (Nat.le_refl _)).cell 0 (v := .int .i64 ax) rfl, (FP_1.out.below hb (Nat.le_refl _)).cell 1 (v := .int .i64 ay) rfl, (FQ_1.out.below hb (Nat.le_refl _)).cell 0 (v := .int .i64 bx) rfl, (FQ_1.out.below hb (Nat.le_refl _)).cell 1 (v := .int .i64 b_) rfl⟩)
  go_region_held3 (fun w' => w'.cell? ⟨w.heap.size, 0, none⟩ = some (.int .i64 ax) ∧ w'.cell? ⟨w.heap.size, 1, none⟩ = some (.int .i64 ay) ∧ w'.cell? ⟨w.heap.size + 1, 0, none⟩ = some (.int .i64 bx) ∧ w'.cell? ⟨w.heap.size + 1, 1, none⟩ = some (.int .i64 b_)) (first | with_reducible exact QF1.out _ RB3.out | with_reducible exact QF1.out _ RB2.out | with_reducible exact QS1.out | with_reducible exact QF1.out _ RB1.out | with_reducible exact ⟨keep_set (keep_set (QF1.out _ RB3.out).1 (by simp <;> omega)) (by simp <;> omega), keep_set (keep_set (QF1.out _ RB3.out).2.1 (by simp <;> omega)) (by simp <;> omega), keep_set (keep_set (QF1.out _ RB3.out).2.2.1 (by simp <;> omega)) (by simp <;> omega), keep_set (keep_set (QF1.out _ RB3.out).2.2.2 (by simp <;> omega)) (by simp <;> omega)⟩) (first
      | (go_at_call 110; have := RB2; clear this; refine (diff_Coordinate b_ ay h4 h2 _).mono ?_; rintro e w3 ⟨⟨A2, c2, rfl, S2⟩, B⟩; have RB3 := Lib.hid (RB2.out.trans (B.mono RB2.out.size)); have RV1_3 := Lib.hid (RV1_2.out.below B (Nat.le_refl _)); have RV2_3 := Lib.hid S2; clear B S2; have q0 := (FR_1.out.below RB3.out (Nat.le_refl _)).cell 0 (v := .slice none 0 0) rfl; have q1 := (FR_1.out.below RB3.out (Nat.le_refl _)).cell 1 (v := .slice none 0 0) rfl; have q2 := (FR_1.out.below RB3.out (Nat.le_refl _)).free 0; have q3 := (FR_1.out.below RB3.out (Nat.le_refl _)).free 1)
      | (go_at_call 110; have := RB1; clear this; refine (diff_Coordinate bx ax h3 h1 _).mono ?_; rintro e w2 ⟨⟨A1, c1, rfl, S1⟩, B⟩; have RB2 := Lib.hid (RB1.out.trans (B.mono RB1.out.size)); have RV1_2 := Lib.hid S1; clear B S1))
  have FP_3 := Lib.hid (FP_1.out.below RB3.out (Nat.le_refl _))
  have FQ_3 := Lib.hid (FQ_1.out.below RB3.out (Nat.le_refl _))
  have FR_3 := Lib.hid (FR_1.out.below RB3.out (Nat.le_refl _))
  have HB3 := Lib.hid (HB1.out.trans (RB3.out.mono HB1.out.size))
  clear HB1 FP_1 FQ_1 FR_1
  go_wp2_with fail
  have r1 := FR_3.out.set 0 (.slice A1 2 c1)
  refine bodyPost_ret (v := .agg #[.slice A1 2 c1, .slice A2 2 c2]) (by simp [results, Tryd.results94, go_sem, q0, q1]) rfl ⟨⟨A1, c1, A2, c2, rfl, (RV1_3.out.set FR_3.out (by simp)).set r1 (by simp), (RV2_3.out.set FR_3.out (by simp)).set r1 (by simp)⟩, ?_⟩
  exact (HB3.out.setCell (p := ⟨w.heap.size + 1 + 1, 0, none⟩) (by simp <;> omega) _).setCell (p := ⟨w.heap.size + 1 + 1, 1, none⟩) (by simp <;> omega) _

theorem diff_turned (A : Option Addr) (n c : Nat) (A' : Option Addr) (n' c' : Nat) (w : World) :
    Calls Tryd.prog 107 #[.agg #[.slice A n c, .slice A' n' c']] w fun e w' => e = .returned (.agg #[.slice A' n' c', .slice A n c]) ∧ Below w.heap.size w w' := by
  go_enter Tryd.func107, Tryd.ntmps107
  go_wp2
  exact bodyPost_ret (v := .agg #[.slice A' n' c', .slice A n c]) (by simp [results, Tryd.results107, go_sem]) rfl ⟨rfl, ((Below.refl w.heap.size w).alloc (Nat.le_refl _) _).alloc (by simp) _⟩
theorem diff_same (A : Option Addr) (n c : Nat) (A' : Option Addr) (n' c' : Nat) (w : World) :
    Calls Tryd.prog 125 #[.agg #[.slice A n c, .slice A' n' c']] w fun e w' => e = .returned (.agg #[.slice A n c, .slice A' n' c']) ∧ Below w.heap.size w w' := by
  go_enter Tryd.func125, Tryd.ntmps125
  go_wp2
  exact bodyPost_ret (v := .agg #[.slice A n c, .slice A' n' c']) (by simp [results, Tryd.results125, go_sem]) rfl ⟨rfl, ((Below.refl w.heap.size w).alloc (Nat.le_refl _) _).alloc (by simp) _⟩
set_option maxHeartbeats 1000000 in
theorem diff_comb_Cross (A A' : Option Addr) (n c c' : Nat) (x y : Int) (w : World) (ha : Sl w .u64 A n c (lmb x)) (hb : Sl w .u64 A' n c' (lmb y)) (hn : isN n = true) :
    Calls Tryd.prog 108 #[.slice A n c, .slice A' n c'] w fun e w' => (∃ A2 c2, e = .returned (.slice A2 n c2) ∧ Sl w' .u64 A2 n c2 (lmb (x - y))) ∧ Below w.heap.size w w' := by
  have HB0 := Lib.hid (Below.refl w.heap.size w)
  have FA := Lib.hid ha
  have FB := Lib.hid hb
  clear ha hb
  go_enter Tryd.func108, Tryd.ntmps108
  go_wp2_with fail
  refine (limb_Sub _ _ _ _ _ _ _ _ FA.out FB.out hn).mono ?_
  rintro e w1 ⟨A2, c2, rfl, SC, B⟩
  have HB1 := Lib.hid (HB0.out.trans (B.mono HB0.out.size))
  have FA_1 := Lib.hid (FA.out.below B (Nat.le_refl _))
  have FB_1 := Lib.hid (FB.out.below B (Nat.le_refl _))
  have FC_1 := Lib.hid SC
  clear B SC HB0 FA FB
  go_wp2_with fail
  go_ret
  exact ⟨⟨_, _, rfl, FC_1.out⟩, HB1.out⟩

set_option maxHeartbeats 1000000 in
theorem diff_comb_Dot (A A' : Option Addr) (n c c' : Nat) (x y : Int) (w : World) (ha : Sl w .u64 A n c (lmb x)) (hb : Sl w .u64 A' n c' (lmb y)) (hn : isN n = true) :
    Calls Tryd.prog 126 #[.slice A n c, .slice A' n c'] w fun e w' => (∃ A2 c2, e = .returned (.slice A2 n c2) ∧ Sl w' .u64 A2 n c2 (lmb (x + y))) ∧ Below w.heap.size w w' := by
  have HB0 := Lib.hid (Below.refl w.heap.size w)
  have FA := Lib.hid ha
  have FB := Lib.hid hb
  clear ha hb
  go_enter Tryd.func126, Tryd.ntmps126
  go_wp2_with fail
  refine (limb_Add _ _ _ _ _ _ _ _ FA.out FB.out hn).mono ?_
  rintro e w1 ⟨A2, c2, rfl, SC, B⟩
  have HB1 := Lib.hid (HB0.out.trans (B.mono HB0.out.size))
  have FA_1 := Lib.hid (FA.out.below B (Nat.le_refl _))
  have FB_1 := Lib.hid (FB.out.below B (Nat.le_refl _))
  have FC_1 := Lib.hid SC
  clear B SC HB0 FA FB
  go_wp2_with fail
  go_ret
  exact ⟨⟨_, _, rfl, FC_1.out⟩, HB1.out⟩

set_option maxHeartbeats 1000000 in
theorem diff_products_Cross (A1 A2 A3 A4 : Option Addr) (c1 c2 c3 c4 : Nat) (x1 y1 x2 y2 : Int) (w : World) (a1 : Sl w .u64 A1 2 c1 (lmb x1)) (a2 : Sl w .u64 A2 2 c2 (lmb y1)) (a3 : Sl w .u64 A3 2 c3 (lmb x2)) (a4 : Sl w .u64 A4 2 c4 (lmb y2)) (f1 : Fit 2 x1) (f2 : Fit 2 y1) (f3 : Fit 2 x2) (f4 : Fit 2 y2) :
    Calls Tryd.prog 106 #[.agg #[.slice A1 2 c1, .slice A2 2 c2], .agg #[.slice A3 2 c3, .slice A4 2 c4], .func (.func 107) #[] #[], .func (.func 108) #[] #[]] w fun e w' => (∃ A c, e = .returned (.slice A 4 c) ∧ Sl w' .u64 A 4 c (lmb (x1 * y2 - y1 * x2))) ∧ Below w.heap.size w w' := by
  have HB0 := Lib.hid (Below.refl w.heap.size w)
  have FS1 := Lib.hid a1
  have FS2 := Lib.hid a2
  have FS3 := Lib.hid a3
  have FS4 := Lib.hid a4
  clear a1 a2 a3 a4
  go_enter Tryd.func106, Tryd.ntmps106
  go_wp2_with fail
  have B : Below w.heap.size w (((w.alloc (.cells #[.slice A1 2 c1, .slice A2 2 c2] 113)).alloc (.cells #[.slice A3 2 c3, .slice A4 2 c4] 113)).alloc (.cells #[.slice A1 2 c1, .slice A2 2 c2, .slice A3 2 c3, .slice A4 2 c4] 113)) := (((HB0.out.alloc HB0.out.size _).alloc (HB0.out.alloc HB0.out.size _).size _).alloc ((HB0.out.alloc HB0.out.size _).alloc (HB0.out.alloc HB0.out.size _).size _).size _)
  have C : Below w.heap.size w (((w.alloc (.cells #[.slice A1 2 c1, .slice A2 2 c2] 113)).alloc (.cells #[.slice A3 2 c3, .slice A4 2 c4] 113)).alloc (.cells #[.slice A1 2 c1, .slice A2 2 c2, .slice A3 2 c3, .slice A4 2 c4] 113)) := ((((Below.refl w.heap.size w).alloc (Nat.le_refl _) _).alloc (by simp; try omega) _).alloc (by simp; try omega) _)
  have X0 : Bx (((w.alloc (.cells #[.slice A1 2 c1, .slice A2 2 c2] 113)).alloc (.cells #[.slice A3 2 c3, .slice A4 2 c4] 113)).alloc (.cells #[.slice A1 2 c1, .slice A2 2 c2, .slice A3 2 c3, .slice A4 2 c4] 113)) (w.heap.size) #[.slice A1 2 c1, .slice A2 2 c2] 113 := by simpa using (((Bx.new w #[.slice A1 2 c1, .slice A2 2 c2] 113).alloc _).alloc _)
  have X1 : Bx (((w.alloc (.cells #[.slice A1 2 c1, .slice A2 2 c2] 113)).alloc (.cells #[.slice A3 2 c3, .slice A4 2 c4] 113)).alloc (.cells #[.slice A1 2 c1, .slice A2 2 c2, .slice A3 2 c3, .slice A4 2 c4] 113)) (w.heap.size + 1) #[.slice A3 2 c3, .slice A4 2 c4] 113 := by simpa using ((Bx.new (w.alloc (.cells #[.slice A1 2 c1, .slice A2 2 c2] 113)) #[.slice A3 2 c3, .slice A4 2 c4] 113).alloc _)
  have X2 : Bx (((w.alloc (.cells #[.slice A1 2 c1, .slice A2 2 c2] 113)).alloc (.cells #[.slice A3 2 c3, .slice A4 2 c4] 113)).alloc (.cells #[.slice A1 2 c1, .slice A2 2 c2, .slice A3 2 c3, .slice A4 2 c4] 113)) (w.heap.size + 1 + 1) #[.slice A1 2 c1, .slice A2 2 c2, .slice A3 2 c3, .slice A4 2 c4] 113 := by simpa using (Bx.new ((w.alloc (.cells #[.slice A1 2 c1, .slice A2 2 c2] 113)).alloc (.cells #[.slice A3 2 c3, .slice A4 2 c4] 113)) #[.slice A1 2 c1, .slice A2 2 c2, .slice A3 2 c3, .slice A4 2 c4] 113)
  have FS1_1 := Lib.hid (FS1.out.below C (Nat.le_refl _))
  have FS2_1 := Lib.hid (FS2.out.below C (Nat.le_refl _))
  have FS3_1 := Lib.hid (FS3.out.below C (Nat.le_refl _))
  have FS4_1 := Lib.hid (FS4.out.below C (Nat.le_refl _))
  have HB1 := Lib.hid B
  have FU_1 := Lib.hid X0
  have FV_1 := Lib.hid X1
  have FL_1 := Lib.hid X2
  clear B C X0 X1 X2 HB0 FS1 FS2 FS3 FS4
  generalize (((w.alloc (.cells #[.slice A1 2 c1, .slice A2 2 c2] 113)).alloc (.cells #[.slice A3 2 c3, .slice A4 2 c4] 113)).alloc (.cells #[.slice A1 2 c1, .slice A2 2 c2, .slice A3 2 c3, .slice A4 2 c4] 113)) = w1 at *
  skip
  refine (diff_is2 _ A1 2 c1 A2 2 c2 A3 2 c3 A4 2 c4 _ (by decide) (by decide) (by decide) (by decide) (FL_1.out.cell 0 (v := .slice A1 2 c1) rfl) (FL_1.out.cell 1 (v := .slice A2 2 c2) rfl) (FL_1.out.cell 2 (v := .slice A3 2 c3) rfl) (FL_1.out.cell 3 (v := .slice A4 2 c4) rfl)).mono ?_
  rintro e w2 ⟨rfl, B⟩
  have HB2 := Lib.hid (HB1.out.trans (B.mono HB1.out.size))
  have FS1_2 := Lib.hid (FS1_1.out.below B (Nat.le_refl _))
  have FS2_2 := Lib.hid (FS2_1.out.below B (Nat.le_refl _))
  have FS3_2 := Lib.hid (FS3_1.out.below B (Nat.le_refl _))
  have FS4_2 := Lib.hid (FS4_1.out.below B (Nat.le_refl _))
  have FU_2 := Lib.hid (FU_1.out.below B (Nat.le_refl _))
  have FV_2 := Lib.hid (FV_1.out.below B (Nat.le_refl _))
  have FL_2 := Lib.hid (FL_1.out.below B (Nat.le_refl _))
  clear B  HB1 FS1_1 FS2_1 FS3_1 FS4_1 FU_1 FV_1 FL_1
  rw [show (vB 2 2 && vB 2 2) = true from rfl]
  have hv0 := FV_2.out.cell 0 (v := .slice A3 2 c3) rfl
  have hv1 := FV_2.out.cell 1 (v := .slice A4 2 c4) rfl
  go_wp2_with fail
  refine (diff_turned _ _ _ _ _ _ _).mono ?_
  rintro e w3 ⟨rfl, B⟩
  have HB3 := Lib.hid (HB2.out.trans (B.mono HB2.out.size))
  have FS1_3 := Lib.hid (FS1_2.out.below B (Nat.le_refl _))
  have FS2_3 := Lib.hid (FS2_2.out.below B (Nat.le_refl _))
  have FS3_3 := Lib.hid (FS3_2.out.below B (Nat.le_refl _))
  have FS4_3 := Lib.hid (FS4_2.out.below B (Nat.le_refl _))
  have FU_3 := Lib.hid (FU_2.out.below B (Nat.le_refl _))
  have FV_3 := Lib.hid (FV_2.out.below B (Nat.le_refl _))
  clear B  HB2 FS1_2 FS2_2 FS3_2 FS4_2 FU_2 FV_2
  clear hv0 hv1
  go_wp2_with fail
  have B : Below w.heap.size w (w3.alloc (.cells #[.slice A4 2 c4, .slice A3 2 c3] 113)) := (HB3.out.alloc HB3.out.size _)
  have C : Below w3.heap.size w3 (w3.alloc (.cells #[.slice A4 2 c4, .slice A3 2 c3] 113)) := ((Below.refl w3.heap.size w3).alloc (Nat.le_refl _) _)
  have X0 : Bx (w3.alloc (.cells #[.slice A4 2 c4, .slice A3 2 c3] 113)) (w3.heap.size) #[.slice A4 2 c4, .slice A3 2 c3] 113 := by simpa using (Bx.new w3 #[.slice A4 2 c4, .slice A3 2 c3] 113)
  have FS1_4 := Lib.hid (FS1_3.out.below C (Nat.le_refl _))
  have FS2_4 := Lib.hid (FS2_3.out.below C (Nat.le_refl _))
  have FS3_4 := Lib.hid (FS3_3.out.below C (Nat.le_refl _))
  have FS4_4 := Lib.hid (FS4_3.out.below C (Nat.le_refl _))
  have FU_4 := Lib.hid (FU_3.out.below C (Nat.le_refl _))
  have FV_4 := Lib.hid (FV_3.out.below C (Nat.le_refl _))
  have HB4 := Lib.hid B
  have FX_4 := Lib.hid X0
  clear B C X0 HB3 FS1_3 FS2_3 FS3_3 FS4_3 FU_3 FV_3
  generalize (w3.alloc (.cells #[.slice A4 2 c4, .slice A3 2 c3] 113)) = w4 at *
  have RB4 := Lib.hid (below_drew0 w4)
  have QS4 := Lib.hid (show w4.cell? ⟨w.heap.size, 0, none⟩ = some (.slice A1 2 c1) ∧ w4.cell? ⟨w.heap.size, 1, none⟩ = some (.slice A2 2 c2) ∧ w4.cell? ⟨w3.heap.size, 0, none⟩ = some (.slice A4 2 c4) ∧ w4.cell? ⟨w3.heap.size, 1, none⟩ = some (.slice A3 2 c3) from ⟨FU_4.out.cell 0 (v := .slice A1 2 c1) rfl, FU_4.out.cell 1 (v := .slice A2 2 c2) rfl, FX_4.out.cell 0 (v := .slice A4 2 c4) rfl, FX_4.out.cell 1 (v := .slice A3 2 c3) rfl⟩)
  have QF4 := Lib.hid (show ∀ w', Below w4.heap.size w4 w' → w'.cell? ⟨w.heap.size, 0, none⟩ = some (.slice A1 2 c1) ∧ w'.cell? ⟨w.heap.size, 1, none⟩ = some (.slice A2 2 c2) ∧ w'.cell? ⟨w3.heap.size, 0, none⟩ = some (.slice A4 2 c4) ∧ w'.cell? ⟨w3.heap.size, 1, none⟩ = some (.slice A3 2 c3) from fun w' hb => ⟨(FU_4.out.below hb (Nat.le_refl _)).cell 0 (v := .slice A1 2 c1) rfl, (FU_4.out.below hb (Nat.le_refl _)).cell 1 (v := .slice A2 2 c2) rfl, (FX_4.out.below hb (Nat.le_refl _)).cell 0 (v := .slice A4 2 c4) rfl, (FX_4.out.below hb (Nat.le_refl _)).cell 1 (v := .slice A3 2 c3) rfl⟩)
  go_region_held3 (fun w' => w'.cell? ⟨w.heap.size, 0, none⟩ = some (.slice A1 2 c1) ∧ w'.cell? ⟨w.heap.size, 1, none⟩ = some (.slice A2 2 c2) ∧ w'.cell? ⟨w3.heap.size, 0, none⟩ = some (.slice A4 2 c4) ∧ w'.cell? ⟨w3.heap.size, 1, none⟩ = some (.slice A3 2 c3)) (first | with_reducible exact QF4.out _ RB7.out | with_reducible exact QF4.out _ RB6.out | with_reducible exact QF4.out _ RB5.out | with_reducible exact QS4.out | with_reducible exact QF4.out _ RB4.out) (first
      | (go_at_call 108; have := RB6; clear this; refine (diff_comb_Cross P1 P2 4 q1 q2 (x1 * y2) (y1 * x2) _ RM1_6.out RM2_6.out rfl).mono ?_; rintro e w7 ⟨⟨P3, q3, rfl, M3⟩, B⟩; have RB7 := Lib.hid (RB6.out.trans (B.mono RB6.out.size)); have RM1_7 := Lib.hid (RM1_6.out.below B (Nat.le_refl _)); have RM2_7 := Lib.hid (RM2_6.out.below B (Nat.le_refl _)); have RM3_7 := Lib.hid M3; clear B M3)
      | (go_at_call 114; have := RB5; clear this; refine (limb_Mul A2 A3 2 c2 2 c3 y1 x2 _ (FS2_4.out.below RB5.out (Nat.le_refl _)) (FS3_4.out.below RB5.out (Nat.le_refl _)) f2 f3 rfl rfl (by omega)).mono ?_; rintro e w6 ⟨P2, q2, rfl, M2, B⟩; have RB6 := Lib.hid (RB5.out.trans (B.mono RB5.out.size)); have RM1_6 := Lib.hid (RM1_5.out.below B (Nat.le_refl _)); have RM2_6 := Lib.hid (show Sl _ .u64 P2 4 q2 _ from M2); clear B M2)
      | (go_at_call 114; have := RB4; clear this; refine (limb_Mul A1 A4 2 c1 2 c4 x1 y2 _ (FS1_4.out.below RB4.out (Nat.le_refl _)) (FS4_4.out.below RB4.out (Nat.le_refl _)) f1 f4 rfl rfl (by omega)).mono ?_; rintro e w5 ⟨P1, q1, rfl, M1, B⟩; have RB5 := Lib.hid (RB4.out.trans (B.mono RB4.out.size)); have RM1_5 := Lib.hid (show Sl _ .u64 P1 4 q1 _ from M1); clear B M1))
  have FS1_7 := Lib.hid (FS1_4.out.below RB7.out (Nat.le_refl _))
  have FS2_7 := Lib.hid (FS2_4.out.below RB7.out (Nat.le_refl _))
  have FS3_7 := Lib.hid (FS3_4.out.below RB7.out (Nat.le_refl _))
  have FS4_7 := Lib.hid (FS4_4.out.below RB7.out (Nat.le_refl _))
  have FU_7 := Lib.hid (FU_4.out.below RB7.out (Nat.le_refl _))
  have FV_7 := Lib.hid (FV_4.out.below RB7.out (Nat.le_refl _))
  have FX_7 := Lib.hid (FX_4.out.below RB7.out (Nat.le_refl _))
  have HB7 := Lib.hid (HB4.out.trans (RB7.out.mono HB4.out.size))
  clear HB4 FS1_4 FS2_4 FS3_4 FS4_4 FU_4 FV_4 FX_4
  go_wp2_with fail
  go_ret
  exact ⟨⟨_, _, rfl, RM3_7.out⟩, HB7.out⟩

set_option maxHeartbeats 1000000 in
theorem diff_products_Dot (A1 A2 A3 A4 : Option Addr) (c1 c2 c3 c4 : Nat) (x1 y1 x2 y2 : Int) (w : World) (a1 : Sl w .u64 A1 2 c1 (lmb x1)) (a2 : Sl w .u64 A2 2 c2 (lmb y1)) (a3 : Sl w .u64 A3 2 c3 (lmb x2)) (a4 : Sl w .u64 A4 2 c4 (lmb y2)) (f1 : Fit 2 x1) (f2 : Fit 2 y1) (f3 : Fit 2 x2) (f4 : Fit 2 y2) :
    Calls Tryd.prog 106 #[.agg #[.slice A1 2 c1, .slice A2 2 c2], .agg #[.slice A3 2 c3, .slice A4 2 c4], .func (.func 125) #[] #[], .func (.func 126) #[] #[]] w fun e w' => (∃ A c, e = .returned (.slice A 4 c) ∧ Sl w' .u64 A 4 c (lmb (x1 * x2 + y1 * y2))) ∧ Below w.heap.size w w' := by
  have HB0 := Lib.hid (Below.refl w.heap.size w)
  have FS1 := Lib.hid a1
  have FS2 := Lib.hid a2
  have FS3 := Lib.hid a3
  have FS4 := Lib.hid a4
  clear a1 a2 a3 a4
  go_enter Tryd.func106, Tryd.ntmps106
  go_wp2_with fail
  have B : Below w.heap.size w (((w.alloc (.cells #[.slice A1 2 c1, .slice A2 2 c2] 113)).alloc (.cells #[.slice A3 2 c3, .slice A4 2 c4] 113)).alloc (.cells #[.slice A1 2 c1, .slice A2 2 c2, .slice A3 2 c3, .slice A4 2 c4] 113)) := (((HB0.out.alloc HB0.out.size _).alloc (HB0.out.alloc HB0.out.size _).size _).alloc ((HB0.out.alloc HB0.out.size _).alloc (HB0.out.alloc HB0.out.size _).size _).size _)
  have C : Below w.heap.size w (((w.alloc (.cells #[.slice A1 2 c1, .slice A2 2 c2] 113)).alloc (.cells #[.slice A3 2 c3, .slice A4 2 c4] 113)).alloc (.cells #[.slice A1 2 c1, .slice A2 2 c2, .slice A3 2 c3, .slice A4 2 c4] 113)) := ((((Below.refl w.heap.size w).alloc (Nat.le_refl _) _).alloc (by simp; try omega) _).alloc (by simp; try omega) _)
  have X0 : Bx (((w.alloc (.cells #[.slice A1 2 c1, .slice A2 2 c2] 113)).alloc (.cells #[.slice A3 2 c3, .slice A4 2 c4] 113)).alloc (.cells #[.slice A1 2 c1, .slice A2 2 c2, .slice A3 2 c3, .slice A4 2 c4] 113)) (w.heap.size) #[.slice A1 2 c1, .slice A2 2 c2] 113 := by simpa using (((Bx.new w #[.slice A1 2 c1, .slice A2 2 c2] 113).alloc _).alloc _)
  have X1 : Bx (((w.alloc (.cells #[.slice A1 2 c1, .slice A2 2 c2] 113)).alloc (.cells #[.slice A3 2 c3, .slice A4 2 c4] 113)).alloc (.cells #[.slice A1 2 c1, .slice A2 2 c2, .slice A3 2 c3, .slice A4 2 c4] 113)) (w.heap.size + 1) #[.slice A3 2 c3, .slice A4 2 c4] 113 := by simpa using ((Bx.new (w.alloc (.cells #[.slice A1 2 c1, .slice A2 2 c2] 113)) #[.slice A3 2 c3, .slice A4 2 c4] 113).alloc _)
  have X2 : Bx (((w.alloc (.cells #[.slice A1 2 c1, .slice A2 2 c2] 113)).alloc (.cells #[.slice A3 2 c3, .slice A4 2 c4] 113)).alloc (.cells #[.slice A1 2 c1, .slice A2 2 c2, .slice A3 2 c3, .slice A4 2 c4] 113)) (w.heap.size + 1 + 1) #[.slice A1 2 c1, .slice A2 2 c2, .slice A3 2 c3, .slice A4 2 c4] 113 := by simpa using (Bx.new ((w.alloc (.cells #[.slice A1 2 c1, .slice A2 2 c2] 113)).alloc (.cells #[.slice A3 2 c3, .slice A4 2 c4] 113)) #[.slice A1 2 c1, .slice A2 2 c2, .slice A3 2 c3, .slice A4 2 c4] 113)
  have FS1_1 := Lib.hid (FS1.out.below C (Nat.le_refl _))
  have FS2_1 := Lib.hid (FS2.out.below C (Nat.le_refl _))
  have FS3_1 := Lib.hid (FS3.out.below C (Nat.le_refl _))
  have FS4_1 := Lib.hid (FS4.out.below C (Nat.le_refl _))
  have HB1 := Lib.hid B
  have FU_1 := Lib.hid X0
  have FV_1 := Lib.hid X1
  have FL_1 := Lib.hid X2
  clear B C X0 X1 X2 HB0 FS1 FS2 FS3 FS4
  generalize (((w.alloc (.cells #[.slice A1 2 c1, .slice A2 2 c2] 113)).alloc (.cells #[.slice A3 2 c3, .slice A4 2 c4] 113)).alloc (.cells #[.slice A1 2 c1, .slice A2 2 c2, .slice A3 2 c3, .slice A4 2 c4] 113)) = w1 at *
  skip
  refine (diff_is2 _ A1 2 c1 A2 2 c2 A3 2 c3 A4 2 c4 _ (by decide) (by decide) (by decide) (by decide) (FL_1.out.cell 0 (v := .slice A1 2 c1) rfl) (FL_1.out.cell 1 (v := .slice A2 2 c2) rfl) (FL_1.out.cell 2 (v := .slice A3 2 c3) rfl) (FL_1.out.cell 3 (v := .slice A4 2 c4) rfl)).mono ?_
  rintro e w2 ⟨rfl, B⟩
  have HB2 := Lib.hid (HB1.out.trans (B.mono HB1.out.size))
  have FS1_2 := Lib.hid (FS1_1.out.below B (Nat.le_refl _))
  have FS2_2 := Lib.hid (FS2_1.out.below B (Nat.le_refl _))
  have FS3_2 := Lib.hid (FS3_1.out.below B (Nat.le_refl _))
  have FS4_2 := Lib.hid (FS4_1.out.below B (Nat.le_refl _))
  have FU_2 := Lib.hid (FU_1.out.below B (Nat.le_refl _))
  have FV_2 := Lib.hid (FV_1.out.below B (Nat.le_refl _))
  have FL_2 := Lib.hid (FL_1.out.below B (Nat.le_refl _))
  clear B  HB1 FS1_1 FS2_1 FS3_1 FS4_1 FU_1 FV_1 FL_1
  rw [show (vB 2 2 && vB 2 2) = true from rfl]
  have hv0 := FV_2.out.cell 0 (v := .slice A3 2 c3) rfl
  have hv1 := FV_2.out.cell 1 (v := .slice A4 2 c4) rfl
  go_wp2_with fail
  refine (diff_same _ _ _ _ _ _ _).mono ?_
  rintro e w3 ⟨rfl, B⟩
  have HB3 := Lib.hid (HB2.out.trans (B.mono HB2.out.size))
  have FS1_3 := Lib.hid (FS1_2.out.below B (Nat.le_refl _))
  have FS2_3 := Lib.hid (FS2_2.out.below B (Nat.le_refl _))
  have FS3_3 := Lib.hid (FS3_2.out.below B (Nat.le_refl _))
  have FS4_3 := Lib.hid (FS4_2.out.below B (Nat.le_refl _))
  have FU_3 := Lib.hid (FU_2.out.below B (Nat.le_refl _))
  have FV_3 := Lib.hid (FV_2.out.below B (Nat.le_refl _))
  clear B  HB2 FS1_2 FS2_2 FS3_2 FS4_2 FU_2 FV_2
  clear hv0 hv1
  go_wp2_with fail
  have B : Below w.heap.size w (w3.alloc (.cells #[.slice A3 2 c3, .slice A4 2 c4] 113)) := (HB3.out.alloc HB3.out.size _)
  have C : Below w3.heap.size w3 (w3.alloc (.cells #[.slice A3 2 c3, .slice A4 2 c4] 113)) := ((Below.refl w3.heap.size w3).alloc (Nat.le_refl _) _)
  have X0 : Bx (w3.alloc (.cells #[.slice A3 2 c3, .slice A4 2 c4] 113)) (w3.heap.size) #[.slice A3 2 c3, .slice A4 2 c4] 113 := by simpa using (Bx.new w3 #[.slice A3 2 c3, .slice A4 2 c4] 113)
  have FS1_4 := Lib.hid (FS1_3.out.below C (Nat.le_refl _))
  have FS2_4 := Lib.hid (FS2_3.out.below C (Nat.le_refl _))
  have FS3_4 := Lib.hid (FS3_3.out.below C (Nat.le_refl _))
  have FS4_4 := Lib.hid (FS4_3.out.below C (Nat.le_refl _))
  have FU_4 := Lib.hid (FU_3.out.below C (Nat.le_refl _))
  have FV_4 := Lib.hid (FV_3.out.below C (Nat.le_refl _))
  have HB4 := Lib.hid B
  have FX_4 := Lib.hid X0
  clear B C X0 HB3 FS1_3 FS2_3 FS3_3 FS4_3 FU_3 FV_3
  generalize (w3.alloc (.cells #[.slice A3 2 c3, .slice A4 2 c4] 113)) = w4 at *
  have RB4 := Lib.hid (below_drew0 w4)
  have QS4 := Lib.hid (show w4.cell? ⟨w.heap.size, 0, none⟩ = some (.slice A1 2 c1) ∧ w4.cell? ⟨w.heap.size, 1, none⟩ = some (.slice A2 2 c2) ∧ w4.cell? ⟨w3.heap.size, 0, none⟩ = some (.slice A3 2 c3) ∧ w4.cell? ⟨w3.heap.size, 1, none⟩ = some (.slice A4 2 c4) from ⟨FU_4.out.cell 0 (v := .slice A1 2 c1) rfl, FU_4.out.cell 1 (v := .slice A2 2 c2) rfl, FX_4.out.cell 0 (v := .slice A3 2 c3) rfl, FX_4.out.cell 1 (v := .slice A4 2 c4) rfl⟩)
  have QF4 := Lib.hid (show ∀ w', Below w4.heap.size w4 w' → w'.cell? ⟨w.heap.size, 0, none⟩ = some (.slice A1 2 c1) ∧ w'.cell? ⟨w.heap.size, 1, none⟩ = some (.slice A2 2 c2) ∧ w'.cell? ⟨w3.heap.size, 0, none⟩ = some (.slice A3 2 c3) ∧ w'.cell? ⟨w3.heap.size, 1, none⟩ = some (.slice A4 2 c4) from fun w' hb => ⟨(FU_4.out.below hb (Nat.le_refl _)).cell 0 (v := .slice A1 2 c1) rfl, (FU_4.out.below hb (Nat.le_refl _)).cell 1 (v := .slice A2 2 c2) rfl, (FX_4.out.below hb (Nat.le_refl _)).cell 0 (v := .slice A3 2 c3) rfl, (FX_4.out.below hb (Nat.le_refl _)).cell 1 (v := .slice A4 2 c4) rfl⟩)
  go_region_held3 (fun w' => w'.cell? ⟨w.heap.size, 0, none⟩ = some (.slice A1 2 c1) ∧ w'.cell? ⟨w.heap.size, 1, none⟩ = some (.slice A2 2 c2) ∧ w'.cell? ⟨w3.heap.size, 0, none⟩ = some (.slice A3 2 c3) ∧ w'.cell? ⟨w3.heap.size, 1, none⟩ = some (.slice A4 2 c4)) (first | with_reducible exact QF4.out _ RB7.out | with_reducible exact QF4.out _ RB6.out | with_reducible exact QF4.out _ RB5.out | with_reducible exact QS4.out | with_reducible exact QF4.out _ RB4.out) (first
      | (go_at_call 126; have := RB6; clear this; refine (diff_comb_Dot P1 P2 4 q1 q2 (x1 * x2) (y1 * y2) _ RM1_6.out RM2_6.out rfl).mono ?_; rintro e w7 ⟨⟨P3, q3, rfl, M3⟩, B⟩; have RB7 := Lib.hid (RB6.out.trans (B.mono RB6.out.size)); have RM1_7 := Lib.hid (RM1_6.out.below B (Nat.le_refl _)); have RM2_7 := Lib.hid (RM2_6.out.below B (Nat.le_refl _)); have RM3_7 := Lib.hid M3; clear B M3)
      | (go_at_call 114; have := RB5; clear this; refine (limb_Mul A2 A4 2 c2 2 c4 y1 y2 _ (FS2_4.out.below RB5.out (Nat.le_refl _)) (FS4_4.out.below RB5.out (Nat.le_refl _)) f2 f4 rfl rfl (by omega)).mono ?_; rintro e w6 ⟨P2, q2, rfl, M2, B⟩; have RB6 := Lib.hid (RB5.out.trans (B.mono RB5.out.size)); have RM1_6 := Lib.hid (RM1_5.out.below B (Nat.le_refl _)); have RM2_6 := Lib.hid (show Sl _ .u64 P2 4 q2 _ from M2); clear B M2)
      | (go_at_call 114; have := RB4; clear this; refine (limb_Mul A1 A3 2 c1 2 c3 x1 x2 _ (FS1_4.out.below RB4.out (Nat.le_refl _)) (FS3_4.out.below RB4.out (Nat.le_refl _)) f1 f3 rfl rfl (by omega)).mono ?_; rintro e w5 ⟨P1, q1, rfl, M1, B⟩; have RB5 := Lib.hid (RB4.out.trans (B.mono RB4.out.size)); have RM1_5 := Lib.hid (show Sl _ .u64 P1 4 q1 _ from M1); clear B M1))
  have FS1_7 := Lib.hid (FS1_4.out.below RB7.out (Nat.le_refl _))
  have FS2_7 := Lib.hid (FS2_4.out.below RB7.out (Nat.le_refl _))
  have FS3_7 := Lib.hid (FS3_4.out.below RB7.out (Nat.le_refl _))
  have FS4_7 := Lib.hid (FS4_4.out.below RB7.out (Nat.le_refl _))
  have FU_7 := Lib.hid (FU_4.out.below RB7.out (Nat.le_refl _))
  have FV_7 := Lib.hid (FV_4.out.below RB7.out (Nat.le_refl _))
  have FX_7 := Lib.hid (FX_4.out.below RB7.out (Nat.le_refl _))
  have HB7 := Lib.hid (HB4.out.trans (RB7.out.mono HB4.out.size))
  clear HB4 FS1_4 FS2_4 FS3_4 FS4_4 FU_4 FV_4 FX_4
  go_wp2_with fail
  go_ret
  exact ⟨⟨_, _, rfl, RM3_7.out⟩, HB7.out⟩

set_option maxHeartbeats 1000000 in
theorem diff_Cross (A1 A2 A3 A4 : Option Addr) (c1 c2 c3 c4 : Nat) (x1 y1 x2 y2 : Int) (w : World) (a1 : Sl w .u64 A1 2 c1 (lmb x1)) (a2 : Sl w .u64 A2 2 c2 (lmb y1)) (a3 : Sl w .u64 A3 2 c3 (lmb x2)) (a4 : Sl w .u64 A4 2 c4 (lmb y2)) (f1 : Fit 2 x1) (f2 : Fit 2 y1) (f3 : Fit 2 x2) (f4 : Fit 2 y2) :
    Calls Tryd.prog 93 #[.agg #[.slice A1 2 c1, .slice A2 2 c2], .agg #[.slice A3 2 c3, .slice A4 2 c4]] w fun e w' => (∃ A c, e = .returned (.slice A 4 c) ∧ Sl w' .u64 A 4 c (lmb (x1 * y2 - y1 * x2))) ∧ Below w.heap.size w w' := by
  have HB0 := Lib.hid (Below.refl w.heap.size w)
  have FS1 := Lib.hid a1
  have FS2 := Lib.hid a2
  have FS3 := Lib.hid a3
  have FS4 := Lib.hid a4
  clear a1 a2 a3 a4
  go_enter Tryd.func93, Tryd.ntmps93
  go_wp2_with fail
  refine (diff_products_Cross _ _ _ _ _ _ _ _ _ _ _ _ _ ((FS1.out.alloc _).alloc _) ((FS2.out.alloc _).alloc _) ((FS3.out.alloc _).alloc _) ((FS4.out.alloc _).alloc _) f1 f2 f3 f4).mono ?_
  rintro e w1 ⟨⟨A5, c5, rfl, S5⟩, B⟩
  have HB1 := Lib.hid (((HB0.out.alloc HB0.out.size _).alloc (HB0.out.alloc HB0.out.size _).size _).trans (B.mono ((HB0.out.alloc HB0.out.size _).alloc (HB0.out.alloc HB0.out.size _).size _).size))
  have FS1_1 := Lib.hid (((FS1.out.alloc _).alloc _).below B (Nat.le_refl _))
  have FS2_1 := Lib.hid (((FS2.out.alloc _).alloc _).below B (Nat.le_refl _))
  have FS3_1 := Lib.hid (((FS3.out.alloc _).alloc _).below B (Nat.le_refl _))
  have FS4_1 := Lib.hid (((FS4.out.alloc _).alloc _).below B (Nat.le_refl _))
  have FS5_1 := Lib.hid S5
  clear B S5 HB0 FS1 FS2 FS3 FS4
  go_wp2_with fail
  go_ret
  exact ⟨⟨_, _, rfl, FS5_1.out⟩, HB1.out⟩

set_option maxHeartbeats 1000000 in
theorem diff_Dot (A1 A2 A3 A4 : Option Addr) (c1 c2 c3 c4 : Nat) (x1 y1 x2 y2 : Int) (w : World) (a1 : Sl w .u64 A1 2 c1 (lmb x1)) (a2 : Sl w .u64 A2 2 c2 (lmb y1)) (a3 : Sl w .u64 A3 2 c3 (lmb x2)) (a4 : Sl w .u64 A4 2 c4 (lmb y2)) (f1 : Fit 2 x1) (f2 : Fit 2 y1) (f3 : Fit 2 x2) (f4 : Fit 2 y2) :
    Calls Tryd.prog 121 #[.agg #[.slice A1 2 c1, .slice A2 2 c2], .agg #[.slice A3 2 c3, .slice A4 2 c4]] w fun e w' => (∃ A c, e = .returned (.slice A 4 c) ∧ Sl w' .u64 A 4 c (lmb (x1 * x2 + y1 * y2))) ∧ Below w.heap.size w w' := by
  have HB0 := Lib.hid (Below.refl w.heap.size w)
  have FS1 := Lib.hid a1
  have FS2 := Lib.hid a2
  have FS3 := Lib.hid a3
  have FS4 := Lib.hid a4
  clear a1 a2 a3 a4
  go_enter Tryd.func121, Tryd.ntmps121
  go_wp2_with fail
  refine (diff_products_Dot _ _ _ _ _ _ _ _ _ _ _ _ _ ((FS1.out.alloc _).alloc _) ((FS2.out.alloc _).alloc _) ((FS3.out.alloc _).alloc _) ((FS4.out.alloc _).alloc _) f1 f2 f3 f4).mono ?_
  rintro e w1 ⟨⟨A5, c5, rfl, S5⟩, B⟩
  have HB1 := Lib.hid (((HB0.out.alloc HB0.out.size _).alloc (HB0.out.alloc HB0.out.size _).size _).trans (B.mono ((HB0.out.alloc HB0.out.size _).alloc (HB0.out.alloc HB0.out.size _).size _).size))
  have FS1_1 := Lib.hid (((FS1.out.alloc _).alloc _).below B (Nat.le_refl _))
  have FS2_1 := Lib.hid (((FS2.out.alloc _).alloc _).below B (Nat.le_refl _))
  have FS3_1 := Lib.hid (((FS3.out.alloc _).alloc _).below B (Nat.le_refl _))
  have FS4_1 := Lib.hid (((FS4.out.alloc _).alloc _).below B (Nat.le_refl _))
  have FS5_1 := Lib.hid S5
  clear B S5 HB0 FS1 FS2 FS3 FS4
  go_wp2_with fail
  go_ret
  exact ⟨⟨_, _, rfl, FS5_1.out⟩, HB1.out⟩

set_option maxHeartbeats 1000000 in
theorem diff_Norm (A1 A2 : Option Addr) (c1 c2 : Nat) (x1 y1 : Int) (w : World) (a1 : Sl w .u64 A1 2 c1 (lmb x1)) (a2 : Sl w .u64 A2 2 c2 (lmb y1)) (f1 : Fit 2 x1) (f2 : Fit 2 y1) :
    Calls Tryd.prog 112 #[.agg #[.slice A1 2 c1, .slice A2 2 c2]] w fun e w' => (∃ A c, e = .returned (.slice A 4 c) ∧ Sl w' .u64 A 4 c (lmb (x1 * x1 + y1 * y1))) ∧ Below w.heap.size w w' := by
  have HB0 := Lib.hid (Below.refl w.heap.size w)
  have FS1 := Lib.hid a1
  have FS2 := Lib.hid a2
  clear a1 a2
  go_enter Tryd.func112, Tryd.ntmps112
  go_wp2_with fail
  refine (diff_Dot _ _ _ _ _ _ _ _ _ _ _ _ _ (FS1.out.alloc _) (FS2.out.alloc _) (FS1.out.alloc _) (FS2.out.alloc _) f1 f2 f1 f2).mono ?_
  rintro e w1 ⟨⟨A5, c5, rfl, S5⟩, B⟩
  have HB1 := Lib.hid ((HB0.out.alloc HB0.out.size _).trans (B.mono (HB0.out.alloc HB0.out.size _).size))
  have FS1_1 := Lib.hid ((FS1.out.alloc _).below B (Nat.le_refl _))
  have FS2_1 := Lib.hid ((FS2.out.alloc _).below B (Nat.le_refl _))
  have FS5_1 := Lib.hid S5
  clear B S5 HB0 FS1 FS2
  go_wp2_with fail
  go_ret
  exact ⟨⟨_, _, rfl, FS5_1.out⟩, HB1.out⟩

set_option maxHeartbeats 1000000 in
theorem diff_products_no (A1 A2 A3 A4 : Option Addr) (n1 n2 n3 n4 c1 c2 c3 c4 : Nat) (F G : Value) (w : World) (m1 : n1 ≤ maxLen) (m2 : n2 ≤ maxLen) (m3 : n3 ≤ maxLen) (m4 : n4 ≤ maxLen) (h : (vB n1 n2 && vB n3 n4) = false) :
    Calls Tryd.prog 106 #[.agg #[.slice A1 n1 c1, .slice A2 n2 c2], .agg #[.slice A3 n3 c3, .slice A4 n4 c4], F, G] w fun e w' => e = .returned (.slice none 0 0) ∧ Below w.heap.size w w' := by
  have HB0 := Lib.hid (Below.refl w.heap.size w)
  have HH := Lib.hid h; clear h
  go_enter Tryd.func106, Tryd.ntmps106
  go_wp2_with fail
  have B : Below w.heap.size w (((w.alloc (.cells #[.slice A1 n1 c1, .slice A2 n2 c2] 113)).alloc (.cells #[.slice A3 n3 c3, .slice A4 n4 c4] 113)).alloc (.cells #[.slice A1 n1 c1, .slice A2 n2 c2, .slice A3 n3 c3, .slice A4 n4 c4] 113)) := (((HB0.out.alloc HB0.out.size _).alloc (HB0.out.alloc HB0.out.size _).size _).alloc ((HB0.out.alloc HB0.out.size _).alloc (HB0.out.alloc HB0.out.size _).size _).size _)
  have C : Below w.heap.size w (((w.alloc (.cells #[.slice A1 n1 c1, .slice A2 n2 c2] 113)).alloc (.cells #[.slice A3 n3 c3, .slice A4 n4 c4] 113)).alloc (.cells #[.slice A1 n1 c1, .slice A2 n2 c2, .slice A3 n3 c3, .slice A4 n4 c4] 113)) := ((((Below.refl w.heap.size w).alloc (Nat.le_refl _) _).alloc (by simp; try omega) _).alloc (by simp; try omega) _)
  have X0 : Bx (((w.alloc (.cells #[.slice A1 n1 c1, .slice A2 n2 c2] 113)).alloc (.cells #[.slice A3 n3 c3, .slice A4 n4 c4] 113)).alloc (.cells #[.slice A1 n1 c1, .slice A2 n2 c2, .slice A3 n3 c3, .slice A4 n4 c4] 113)) (w.heap.size) #[.slice A1 n1 c1, .slice A2 n2 c2] 113 := by simpa using (((Bx.new w #[.slice A1 n1 c1, .slice A2 n2 c2] 113).alloc _).alloc _)
  have X1 : Bx (((w.alloc (.cells #[.slice A1 n1 c1, .slice A2 n2 c2] 113)).alloc (.cells #[.slice A3 n3 c3, .slice A4 n4 c4] 113)).alloc (.cells #[.slice A1 n1 c1, .slice A2 n2 c2, .slice A3 n3 c3, .slice A4 n4 c4] 113)) (w.heap.size + 1) #[.slice A3 n3 c3, .slice A4 n4 c4] 113 := by simpa using ((Bx.new (w.alloc (.cells #[.slice A1 n1 c1, .slice A2 n2 c2] 113)) #[.slice A3 n3 c3, .slice A4 n4 c4] 113).alloc _)
  have X2 : Bx (((w.alloc (.cells #[.slice A1 n1 c1, .slice A2 n2 c2] 113)).alloc (.cells #[.slice A3 n3 c3, .slice A4 n4 c4] 113)).alloc (.cells #[.slice A1 n1 c1, .slice A2 n2 c2, .slice A3 n3 c3, .slice A4 n4 c4] 113)) (w.heap.size + 1 + 1) #[.slice A1 n1 c1, .slice A2 n2 c2, .slice A3 n3 c3, .slice A4 n4 c4] 113 := by simpa using (Bx.new ((w.alloc (.cells #[.slice A1 n1 c1, .slice A2 n2 c2] 113)).alloc (.cells #[.slice A3 n3 c3, .slice A4 n4 c4] 113)) #[.slice A1 n1 c1, .slice A2 n2 c2, .slice A3 n3 c3, .slice A4 n4 c4] 113)
  have HB1 := Lib.hid B
  have FU_1 := Lib.hid X0
  have FV_1 := Lib.hid X1
  have FL_1 := Lib.hid X2
  clear B C X0 X1 X2 HB0 
  generalize (((w.alloc (.cells #[.slice A1 n1 c1, .slice A2 n2 c2] 113)).alloc (.cells #[.slice A3 n3 c3, .slice A4 n4 c4] 113)).alloc (.cells #[.slice A1 n1 c1, .slice A2 n2 c2, .slice A3 n3 c3, .slice A4 n4 c4] 113)) = w1 at *
  skip
  refine (diff_is2 _ A1 n1 c1 A2 n2 c2 A3 n3 c3 A4 n4 c4 _ m1 m2 m3 m4 (FL_1.out.cell 0 (v := .slice A1 n1 c1) rfl) (FL_1.out.cell 1 (v := .slice A2 n2 c2) rfl) (FL_1.out.cell 2 (v := .slice A3 n3 c3) rfl) (FL_1.out.cell 3 (v := .slice A4 n4 c4) rfl)).mono ?_
  rintro e w2 ⟨rfl, B⟩
  have HB2 := Lib.hid (HB1.out.trans (B.mono HB1.out.size))
  have FU_2 := Lib.hid (FU_1.out.below B (Nat.le_refl _))
  have FV_2 := Lib.hid (FV_1.out.below B (Nat.le_refl _))
  have FL_2 := Lib.hid (FL_1.out.below B (Nat.le_refl _))
  clear B  HB1 FU_1 FV_1 FL_1
  rw [HH.out]
  go_wp2_with fail
  go_ret
  exact ⟨rfl, HB2.out⟩

set_option maxHeartbeats 1000000 in
theorem diff_Cross_no (A1 A2 A3 A4 : Option Addr) (n1 n2 n3 n4 c1 c2 c3 c4 : Nat) (w : World) (m1 : n1 ≤ maxLen) (m2 : n2 ≤ maxLen) (m3 : n3 ≤ maxLen) (m4 : n4 ≤ maxLen) (h : (vB n1 n2 && vB n3 n4) = false) :
    Calls Tryd.prog 93 #[.agg #[.slice A1 n1 c1, .slice A2 n2 c2], .agg #[.slice A3 n3 c3, .slice A4 n4 c4]] w fun e w' => e = .returned (.slice none 0 0) ∧ Below w.heap.size w w' := by
  have HB0 := Lib.hid (Below.refl w.heap.size w)
  go_enter Tryd.func93, Tryd.ntmps93
  go_wp2_with fail
  refine (diff_products_no _ _ _ _ _ _ _ _ _ _ _ _ _ _ _ m1 m2 m3 m4 h).mono ?_
  rintro e w1 ⟨rfl, B⟩
  have HB1 := Lib.hid (((HB0.out.alloc HB0.out.size _).alloc (HB0.out.alloc HB0.out.size _).size _).trans (B.mono ((HB0.out.alloc HB0.out.size _).alloc (HB0.out.alloc HB0.out.size _).size _).size))
  clear B  HB0
  go_wp2_with fail
  go_ret
  exact ⟨rfl, HB1.out⟩

set_option maxHeartbeats 1000000 in
theorem diff_Dot_no (A1 A2 A3 A4 : Option Addr) (n1 n2 n3 n4 c1 c2 c3 c4 : Nat) (w : World) (m1 : n1 ≤ maxLen) (m2 : n2 ≤ maxLen) (m3 : n3 ≤ maxLen) (m4 : n4 ≤ maxLen) (h : (vB n1 n2 && vB n3 n4) = false) :
    Calls Tryd.prog 121 #[.agg #[.slice A1 n1 c1, .slice A2 n2 c2], .agg #[.slice A3 n3 c3, .slice A4 n4 c4]] w fun e w' => e = .returned (.slice none 0 0) ∧ Below w.heap.size w w' := by
  have HB0 := Lib.hid (Below.refl w.heap.size w)
  go_enter Tryd.func121, Tryd.ntmps121
  go_wp2_with fail
  refine (diff_products_no _ _ _ _ _ _ _ _ _ _ _ _ _ _ _ m1 m2 m3 m4 h).mono ?_
  rintro e w1 ⟨rfl, B⟩
  have HB1 := Lib.hid (((HB0.out.alloc HB0.out.size _).alloc (HB0.out.alloc HB0.out.size _).size _).trans (B.mono ((HB0.out.alloc HB0.out.size _).alloc (HB0.out.alloc HB0.out.size _).size _).size))
  clear B  HB0
  go_wp2_with fail
  go_ret
  exact ⟨rfl, HB1.out⟩

set_option maxHeartbeats 1000000 in
theorem diff_Norm_no (A1 A2 : Option Addr) (n1 n2 c1 c2 : Nat) (w : World) (m1 : n1 ≤ maxLen) (m2 : n2 ≤ maxLen) (h : vB n1 n2 = false) :
    Calls Tryd.prog 112 #[.agg #[.slice A1 n1 c1, .slice A2 n2 c2]] w fun e w' => e = .returned (.slice none 0 0) ∧ Below w.heap.size w w' := by
  have HB0 := Lib.hid (Below.refl w.heap.size w)
  go_enter Tryd.func112, Tryd.ntmps112
  go_wp2_with fail
  refine (diff_Dot_no _ _ _ _ _ _ _ _ _ _ _ _ _ m1 m2 m1 m2 (by rw [h]; rfl)).mono ?_
  rintro e w1 ⟨rfl, B⟩
  have HB1 := Lib.hid ((HB0.out.alloc HB0.out.size _).trans (B.mono (HB0.out.alloc HB0.out.size _).size))
  clear B  HB0
  go_wp2_with fail
  go_ret
  exact ⟨rfl, HB1.out⟩

end Go.Proofs.YtoikcgmdlccdbaaDoor
