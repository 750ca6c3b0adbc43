/- LimbAdds: for every input the law returns true, and each argument reads afterwards as it read before; the package variable that the row lists holds what it lists. -/
import Derived.Test.YteadkjbdbljbfaaDoorCards
import Derived.Test.YteadkjbdbljbfaaDoorTie
import Derived.Test.YteadkjbdbljbfaaDoorLaw3b
import Derived.Test.YteadkjbdbljbfaaDoorOpenSl
import Derived.WalkKit
import Derived.ProofKit
import Derived.OpenShut
import Derived.Below
import Derived.Deep.DeepHandedRow
import Derived.Lib.LaidTab
namespace Go.Proofs.YteadkjbdbljbfaaDoor.limbAdds
open Go.ChangeShapes Go.WideShapes Go.ChangeAt Go.RowKit Wd
set_option linter.unusedVariables false
set_option linter.unusedSimpArgs false

theorem own : ownKnob Tryd.prog.godebug = none := by kernel_rfl
theorem laidOut : laidOutB Tryd.prog = true := by kernel_rfl

set_option maxHeartbeats 1000000 in
theorem walk {w : World} (A0 : Option Addr) (n0 c0 : Nat) (x0 : Int) (f0 : Fit n0 x0) (s0 : Sl w .u64 A0 n0 c0 (lmb x0)) (A1 : Option Addr) (n1 c1 : Nat) (x1 : Int) (f1 : Fit n1 x1) (s1 : Sl w .u64 A1 n1 c1 (lmb x1)) (hT : TabM w) :
    Calls Tryd.prog 9 #[.slice A0 n0 c0, .slice A1 n1 c1] w fun e w' => e = .returned (.bool true) ∧ Below w.heap.size w w' := by
  have HT := Lib.hid hT; have HB0 := Lib.hid (Below.refl w.heap.size w)
  have FS0 := Lib.hid s0; have m0 : n0 ≤ maxLen := Nat.le_trans s0.cap s0.max
  have HF0 := Lib.hid f0
  have FS1 := Lib.hid s1; have m1 : n1 ≤ maxLen := Nat.le_trans s1.cap s1.max
  have HF1 := Lib.hid f1
  clear hT s0 f0 s1 f1
  cases hl : (lng n0 || lng n1)
  · have hl0 : n0 ≤ 50 := lng_false (by simp at hl; exact hl.1)
    have hl1 : n1 ≤ 50 := lng_false (by simp at hl; exact hl.2)
    cases h0 : isN n0
    · have hno : (isN n0 && isN n1) = false ∨ n0 ≠ n1 := .inl (by simp [h0])
      go_enter Tryd.func9, Tryd.ntmps9
      go_wp2_with fail
      refine (law_long2 _ A0 A1 n0 c0 n1 c1 m0 m1 _ (by simp [go_sem]) (by simp [go_sem])).mono ?_
      rintro e w1 ⟨rfl, rfl⟩
      rw [hl]
      go_wp2_with fail
      refine (ref3_Value _ _ _ _ _ (FS0.out.alloc _) HF0.out (by omega)).mono ?_
      rintro e w2 ⟨⟨VX, kX, dX, rfl, bX, NX⟩, B⟩
      have HB2 := Lib.hid ((HB0.out.alloc HB0.out.size _).trans (B.mono (HB0.out.alloc HB0.out.size _).size))
      have FT_2 := Lib.hid ((HT.out.alloc _).below B (Nat.le_refl _))
      have FS0_2 := Lib.hid ((FS0.out.alloc _).below B (Nat.le_refl _))
      have FS1_2 := Lib.hid ((FS1.out.alloc _).below B (Nat.le_refl _))
      have FX_2 := Lib.hid NX
      clear B NX HB0 HT FS0 FS1
      go_wp2_with fail
      refine (ref3_Value _ _ _ _ _ FS1_2.out HF1.out (by omega)).mono ?_
      rintro e w3 ⟨⟨VY, kY, dY, rfl, bY, NY⟩, B⟩
      have HB3 := Lib.hid (HB2.out.trans (B.mono HB2.out.size))
      have FT_3 := Lib.hid (FT_2.out.below B (Nat.le_refl _))
      have FS0_3 := Lib.hid (FS0_2.out.below B (Nat.le_refl _))
      have FS1_3 := Lib.hid (FS1_2.out.below B (Nat.le_refl _))
      have FX_3 := Lib.hid (FX_2.out.below B (Nat.le_refl _))
      have FY_3 := Lib.hid NY
      clear B NY HB2 FT_2 FS0_2 FS1_2 FX_2
      go_upto_region 4 with (fail)
      have hb4 := ((Below.refl w3.heap.size w3).alloc (Nat.le_refl _) (.cells #[.int .i64 (sg x0), .slice VX kX dX] 31)).alloc (by simp) (.cells #[.int .i64 (sg x1), .slice VY kY dY] 31)
      have q4 : ((w3.alloc (.cells #[.int .i64 (sg x0), .slice VX kX dX] 31)).alloc (.cells #[.int .i64 (sg x1), .slice VY kY dY] 31)).cell? ⟨w3.heap.size, 0, none⟩ = some (.int .i64 (sg x0)) ∧ ((w3.alloc (.cells #[.int .i64 (sg x0), .slice VX kX dX] 31)).alloc (.cells #[.int .i64 (sg x1), .slice VY kY dY] 31)).cell? ⟨w3.heap.size, 1, none⟩ = some (.slice VX kX dX) ∧ ((w3.alloc (.cells #[.int .i64 (sg x0), .slice VX kX dX] 31)).alloc (.cells #[.int .i64 (sg x1), .slice VY kY dY] 31)).cell? ⟨w3.heap.size + 1, 0, none⟩ = some (.int .i64 (sg x1)) ∧ ((w3.alloc (.cells #[.int .i64 (sg x0), .slice VX kX dX] 31)).alloc (.cells #[.int .i64 (sg x1), .slice VY kY dY] 31)).cell? ⟨w3.heap.size + 1, 1, none⟩ = some (.slice VY kY dY) := ⟨by simp [go_sem], by simp [go_sem], by simp [go_sem], by simp [go_sem]⟩
      have p3 : w3.heap.size + 1 < ((w3.alloc (.cells #[.int .i64 (sg x0), .slice VX kX dX] 31)).alloc (.cells #[.int .i64 (sg x1), .slice VY kY dY] 31)).heap.size := by simp
      generalize ((w3.alloc (.cells #[.int .i64 (sg x0), .slice VX kX dX] 31)).alloc (.cells #[.int .i64 (sg x1), .slice VY kY dY] 31)) = w4 at *
      have HB4 := Lib.hid (HB3.out.trans (hb4.mono HB3.out.size)); have Q4 := Lib.hid q4
      have KT := Lib.hid (FT_3.out.below hb4 (Nat.le_refl _))
      have KS0 := Lib.hid (FS0_3.out.below hb4 (Nat.le_refl _))
      have KS1 := Lib.hid (FS1_3.out.below hb4 (Nat.le_refl _))
      have KX := Lib.hid (FX_3.out.below hb4 (Nat.le_refl _))
      have KY := Lib.hid (FY_3.out.below hb4 (Nat.le_refl _))
      have f5 : ∀ w', Below w4.heap.size w4 w' → w'.cell? ⟨w3.heap.size, 0, none⟩ = some (.int .i64 (sg x0)) ∧ w'.cell? ⟨w3.heap.size, 1, none⟩ = some (.slice VX kX dX) ∧ w'.cell? ⟨w3.heap.size + 1, 0, none⟩ = some (.int .i64 (sg x1)) ∧ w'.cell? ⟨w3.heap.size + 1, 1, none⟩ = some (.slice VY kY dY) := fun w' hb => ⟨(hb.cell (p := ⟨w3.heap.size, 0, none⟩) (Nat.lt_of_succ_lt p3)).trans Q4.out.1, (hb.cell (p := ⟨w3.heap.size, 1, none⟩) (Nat.lt_of_succ_lt p3)).trans Q4.out.2.1, (hb.cell (p := ⟨w3.heap.size + 1, 0, none⟩) p3).trans Q4.out.2.2.1, (hb.cell (p := ⟨w3.heap.size + 1, 1, none⟩) p3).trans Q4.out.2.2.2⟩
      have F5 := Lib.hid f5
      clear f5 q4 hb4 FT_3 FS0_3 FS1_3 FX_3 FY_3 HB3
      go_region_held3 (fun w' => w'.cell? ⟨w3.heap.size, 0, none⟩ = some (.int .i64 (sg x0)) ∧ w'.cell? ⟨w3.heap.size, 1, none⟩ = some (.slice VX kX dX) ∧ w'.cell? ⟨w3.heap.size + 1, 0, none⟩ = some (.int .i64 (sg x1)) ∧ w'.cell? ⟨w3.heap.size + 1, 1, none⟩ = some (.slice VY kY dY)) (first | exact Q4.out | exact F5.out _ B10.out | exact F5.out _ B9.out | exact F5.out _ B8.out | exact F5.out _ B7.out | exact F5.out _ B6.out | exact F5.out _ B5.out) (first
              | (go_at_call 23; refine (limb_Add_no A0 A1 n0 c0 n1 c1 _ (lmb x0) (lmb x1) KS0.out.drew KS1.out.drew hno).mono ?_; rintro e w5 ⟨rfl, b5⟩; have B5 := Lib.hid (Below.trans (Below.drew (Below.refl w4.heap.size w4)) b5); clear b5)
              | (go_at_call 31; refine (ref3_Add VX VY kX dX kY dY x0 x1 _ (KX.out.below B5.out (Nat.le_refl _)) (KY.out.below B5.out (Nat.le_refl _)) (by omega) (by omega)).mono ?_; rintro e w6 ⟨⟨VPAdd, kPAdd, dPAdd, rfl, bPAdd, NP6⟩, b6⟩; have B6 := Lib.hid (Below.trans B5.out (Below.mono b6 B5.out.size)); clear b6; have HP6 := Lib.hid NP6; clear NP6)
              | (go_at_call 32; refine (limb_Sub_no A0 A1 n0 c0 n1 c1 _ (lmb x0) (lmb x1) (by first | exact (KS0.out.below B7.out (Nat.le_refl _)) | exact KS0.out.drew) (by first | exact (KS1.out.below B7.out (Nat.le_refl _)) | exact KS1.out.drew) hno).mono ?_; rintro e w8 ⟨rfl, b8⟩; have B8 := Lib.hid (Below.trans B7.out (Below.mono b8 B7.out.size)); clear b8)
              | (go_at_call 27; refine (ref3_Sub VX VY kX dX kY dY x0 x1 _ (KX.out.below B8.out (Nat.le_refl _)) (KY.out.below B8.out (Nat.le_refl _)) (by omega) (by omega)).mono ?_; rintro e w9 ⟨⟨VPSub, kPSub, dPSub, rfl, bPSub, NP9⟩, b9⟩; have B9 := Lib.hid (Below.trans B8.out (Below.mono b9 B8.out.size)); clear b9; have HP9 := Lib.hid NP9; clear NP9)
              | (go_at_call 30; refine (law_binary_no _ _ _ _ _ _ _ _ _ _ m0 m1 hno _).mono ?_; rintro e wb ⟨rfl, bb⟩; (first | (have B10 := Lib.hid (Below.trans B9.out (Below.mono bb B9.out.size))) | (have B7 := Lib.hid (Below.trans B6.out (Below.mono bb B6.out.size)))); clear bb))
      go_upto_region 6 with (fail)
      clear B9 B8 B7 B6 B5
      go_region_held3 (fun w' => w'.cell? ⟨w3.heap.size, 0, none⟩ = some (.int .i64 (sg x0)) ∧ w'.cell? ⟨w3.heap.size, 1, none⟩ = some (.slice VX kX dX) ∧ w'.cell? ⟨w3.heap.size + 1, 0, none⟩ = some (.int .i64 (sg x1)) ∧ w'.cell? ⟨w3.heap.size + 1, 1, none⟩ = some (.slice VY kY dY)) (first | exact F5.out _ B14.out | exact F5.out _ B13.out | exact F5.out _ B12.out | exact F5.out _ B11.out | exact F5.out _ B10.out | exact F5.out _ B10.out.drew) (first
              | (go_at_call 11; refine (alive3 _ (KT.out.below B10.out.drew (Nat.le_refl _))).mono ?_; rintro e w11 ⟨rfl, b11⟩; have B11 := Lib.hid (Below.trans B10.out.drew (Below.mono b11 B10.out.drew.size)); clear b11)
              | (go_at_call 33; refine (limb_Neg_no A0 n0 c0 (lmb x0) _ (KS0.out.below B11.out (Nat.le_refl _)) h0).mono ?_; rintro e w12 ⟨rfl, b12⟩; have B12 := Lib.hid (Below.trans B11.out (Below.mono b12 B11.out.size)); clear b12)
              | (go_at_call 34; refine (ref3_Neg VX kX dX x0 _ (KX.out.below B12.out (Nat.le_refl _))).mono ?_; rintro e w13 ⟨rfl, b13⟩; have B13 := Lib.hid (Below.trans B12.out (Below.mono b13 B12.out.size)); clear b13)
              | (go_at_call 30; refine (law_binary_no _ _ _ _ _ _ _ _ _ _ m0 m0 (.inl (by simp [h0])) _).mono ?_; rintro e w14 ⟨rfl, b14⟩; have B14 := Lib.hid (Below.trans B13.out (Below.mono b14 B13.out.size)); clear b14))
      go_wp2_with fail
      go_ret
      exact ⟨rfl, HB4.out.trans (B14.out.mono HB4.out.size)⟩
    · by_cases hs : isN n1 = true ∧ n0 = n1
      · obtain ⟨h1, rfl⟩ := hs
        go_enter Tryd.func9, Tryd.ntmps9
        go_wp2_with fail
        refine (law_long2 _ A0 A1 n0 c0 n0 c1 m0 m0 _ (by simp [go_sem]) (by simp [go_sem])).mono ?_
        rintro e w1 ⟨rfl, rfl⟩
        rw [hl]
        go_wp2_with fail
        refine (ref3_Value _ _ _ _ _ (FS0.out.alloc _) HF0.out (by omega)).mono ?_
        rintro e w2 ⟨⟨VX, kX, dX, rfl, bX, NX⟩, B⟩
        have HB2 := Lib.hid ((HB0.out.alloc HB0.out.size _).trans (B.mono (HB0.out.alloc HB0.out.size _).size))
        have FT_2 := Lib.hid ((HT.out.alloc _).below B (Nat.le_refl _))
        have FS0_2 := Lib.hid ((FS0.out.alloc _).below B (Nat.le_refl _))
        have FS1_2 := Lib.hid ((FS1.out.alloc _).below B (Nat.le_refl _))
        have FX_2 := Lib.hid NX
        clear B NX HB0 HT FS0 FS1
        go_wp2_with fail
        refine (ref3_Value _ _ _ _ _ FS1_2.out HF1.out (by omega)).mono ?_
        rintro e w3 ⟨⟨VY, kY, dY, rfl, bY, NY⟩, B⟩
        have HB3 := Lib.hid (HB2.out.trans (B.mono HB2.out.size))
        have FT_3 := Lib.hid (FT_2.out.below B (Nat.le_refl _))
        have FS0_3 := Lib.hid (FS0_2.out.below B (Nat.le_refl _))
        have FS1_3 := Lib.hid (FS1_2.out.below B (Nat.le_refl _))
        have FX_3 := Lib.hid (FX_2.out.below B (Nat.le_refl _))
        have FY_3 := Lib.hid NY
        clear B NY HB2 FT_2 FS0_2 FS1_2 FX_2
        go_upto_region 4 with (fail)
        have hb4 := ((Below.refl w3.heap.size w3).alloc (Nat.le_refl _) (.cells #[.int .i64 (sg x0), .slice VX kX dX] 31)).alloc (by simp) (.cells #[.int .i64 (sg x1), .slice VY kY dY] 31)
        have q4 : ((w3.alloc (.cells #[.int .i64 (sg x0), .slice VX kX dX] 31)).alloc (.cells #[.int .i64 (sg x1), .slice VY kY dY] 31)).cell? ⟨w3.heap.size, 0, none⟩ = some (.int .i64 (sg x0)) ∧ ((w3.alloc (.cells #[.int .i64 (sg x0), .slice VX kX dX] 31)).alloc (.cells #[.int .i64 (sg x1), .slice VY kY dY] 31)).cell? ⟨w3.heap.size, 1, none⟩ = some (.slice VX kX dX) ∧ ((w3.alloc (.cells #[.int .i64 (sg x0), .slice VX kX dX] 31)).alloc (.cells #[.int .i64 (sg x1), .slice VY kY dY] 31)).cell? ⟨w3.heap.size + 1, 0, none⟩ = some (.int .i64 (sg x1)) ∧ ((w3.alloc (.cells #[.int .i64 (sg x0), .slice VX kX dX] 31)).alloc (.cells #[.int .i64 (sg x1), .slice VY kY dY] 31)).cell? ⟨w3.heap.size + 1, 1, none⟩ = some (.slice VY kY dY) := ⟨by simp [go_sem], by simp [go_sem], by simp [go_sem], by simp [go_sem]⟩
        have p3 : w3.heap.size + 1 < ((w3.alloc (.cells #[.int .i64 (sg x0), .slice VX kX dX] 31)).alloc (.cells #[.int .i64 (sg x1), .slice VY kY dY] 31)).heap.size := by simp
        generalize ((w3.alloc (.cells #[.int .i64 (sg x0), .slice VX kX dX] 31)).alloc (.cells #[.int .i64 (sg x1), .slice VY kY dY] 31)) = w4 at *
        have HB4 := Lib.hid (HB3.out.trans (hb4.mono HB3.out.size)); have Q4 := Lib.hid q4
        have KT := Lib.hid (FT_3.out.below hb4 (Nat.le_refl _))
        have KS0 := Lib.hid (FS0_3.out.below hb4 (Nat.le_refl _))
        have KS1 := Lib.hid (FS1_3.out.below hb4 (Nat.le_refl _))
        have KX := Lib.hid (FX_3.out.below hb4 (Nat.le_refl _))
        have KY := Lib.hid (FY_3.out.below hb4 (Nat.le_refl _))
        have f5 : ∀ w', Below w4.heap.size w4 w' → w'.cell? ⟨w3.heap.size, 0, none⟩ = some (.int .i64 (sg x0)) ∧ w'.cell? ⟨w3.heap.size, 1, none⟩ = some (.slice VX kX dX) ∧ w'.cell? ⟨w3.heap.size + 1, 0, none⟩ = some (.int .i64 (sg x1)) ∧ w'.cell? ⟨w3.heap.size + 1, 1, none⟩ = some (.slice VY kY dY) := fun w' hb => ⟨(hb.cell (p := ⟨w3.heap.size, 0, none⟩) (Nat.lt_of_succ_lt p3)).trans Q4.out.1, (hb.cell (p := ⟨w3.heap.size, 1, none⟩) (Nat.lt_of_succ_lt p3)).trans Q4.out.2.1, (hb.cell (p := ⟨w3.heap.size + 1, 0, none⟩) p3).trans Q4.out.2.2.1, (hb.cell (p := ⟨w3.heap.size + 1, 1, none⟩) p3).trans Q4.out.2.2.2⟩
        have F5 := Lib.hid f5
        clear f5 q4 hb4 FT_3 FS0_3 FS1_3 FX_3 FY_3 HB3
        go_region_held3 (fun w' => w'.cell? ⟨w3.heap.size, 0, none⟩ = some (.int .i64 (sg x0)) ∧ w'.cell? ⟨w3.heap.size, 1, none⟩ = some (.slice VX kX dX) ∧ w'.cell? ⟨w3.heap.size + 1, 0, none⟩ = some (.int .i64 (sg x1)) ∧ w'.cell? ⟨w3.heap.size + 1, 1, none⟩ = some (.slice VY kY dY)) (first | exact Q4.out | exact F5.out _ B10.out | exact F5.out _ B9.out | exact F5.out _ B8.out | exact F5.out _ B7.out | exact F5.out _ B6.out | exact F5.out _ B5.out) (first
                  | (go_at_call 23; refine (limb_Add A0 A1 n0 c0 c1 x0 x1 _ KS0.out.drew KS1.out.drew h0).mono ?_; rintro e w5 ⟨GAdd, cgAdd, rfl, SG5, b5⟩; have B5 := Lib.hid (Below.trans (Below.drew (Below.refl w4.heap.size w4)) b5); clear b5; have HG5 := Lib.hid SG5; clear SG5)
                  | (go_at_call 31; refine (ref3_Add VX VY kX dX kY dY x0 x1 _ (KX.out.below B5.out (Nat.le_refl _)) (KY.out.below B5.out (Nat.le_refl _)) (by omega) (by omega)).mono ?_; rintro e w6 ⟨⟨VPAdd, kPAdd, dPAdd, rfl, bPAdd, NP6⟩, b6⟩; have HG6 := Lib.hid (HG5.out.below b6 (Nat.le_refl _)); have B6 := Lib.hid (Below.trans B5.out (Below.mono b6 B5.out.size)); clear b6; have HP6 := Lib.hid NP6; clear NP6)
                  | (go_at_call 32; refine (limb_Sub A0 A1 n0 c0 c1 x0 x1 _ (by first | exact (KS0.out.below B7.out (Nat.le_refl _)) | exact KS0.out.drew) (by first | exact (KS1.out.below B7.out (Nat.le_refl _)) | exact KS1.out.drew) h0).mono ?_; rintro e w8 ⟨GSub, cgSub, rfl, SG8, b8⟩; have B8 := Lib.hid (Below.trans B7.out (Below.mono b8 B7.out.size)); clear b8; have HG8 := Lib.hid SG8; clear SG8)
                  | (go_at_call 27; refine (ref3_Sub VX VY kX dX kY dY x0 x1 _ (KX.out.below B8.out (Nat.le_refl _)) (KY.out.below B8.out (Nat.le_refl _)) (by omega) (by omega)).mono ?_; rintro e w9 ⟨⟨VPSub, kPSub, dPSub, rfl, bPSub, NP9⟩, b9⟩; have HG9 := Lib.hid (HG8.out.below b9 (Nat.le_refl _)); have B9 := Lib.hid (Below.trans B8.out (Below.mono b9 B8.out.size)); clear b9; have HP9 := Lib.hid NP9; clear NP9)
                  | (go_at_call 30; refine (law_binary _ _ _ _ _ _ _ _ _ _ _ m0 h0 _ HG9.out HP9.out (by omega)).mono ?_; rintro e w10 ⟨rfl, b10⟩; have B10 := Lib.hid (Below.trans B9.out (Below.mono b10 B9.out.size)); clear b10)
                  | (go_at_call 30; refine (law_binary _ _ _ _ _ _ _ _ _ _ _ m0 h0 _ HG6.out HP6.out (by omega)).mono ?_; rintro e w7 ⟨rfl, b7⟩; have B7 := Lib.hid (Below.trans B6.out (Below.mono b7 B6.out.size)); clear b7))
        go_upto_region 6 with (fail)
        clear B9 B8 B7 B6 B5
        go_region_held3 (fun w' => w'.cell? ⟨w3.heap.size, 0, none⟩ = some (.int .i64 (sg x0)) ∧ w'.cell? ⟨w3.heap.size, 1, none⟩ = some (.slice VX kX dX) ∧ w'.cell? ⟨w3.heap.size + 1, 0, none⟩ = some (.int .i64 (sg x1)) ∧ w'.cell? ⟨w3.heap.size + 1, 1, none⟩ = some (.slice VY kY dY)) (first | exact F5.out _ B14.out | exact F5.out _ B13.out | exact F5.out _ B12.out | exact F5.out _ B11.out | exact F5.out _ B10.out | exact F5.out _ B10.out.drew) (first
                  | (go_at_call 11; refine (alive3 _ (KT.out.below B10.out.drew (Nat.le_refl _))).mono ?_; rintro e w11 ⟨rfl, b11⟩; have B11 := Lib.hid (Below.trans B10.out.drew (Below.mono b11 B10.out.drew.size)); clear b11)
                  | (go_at_call 33; refine (limb_Neg A0 n0 c0 x0 _ (KS0.out.below B11.out (Nat.le_refl _)) h0).mono ?_; rintro e w12 ⟨GN, cgN, rfl, SG, b12⟩; have B12 := Lib.hid (Below.trans B11.out (Below.mono b12 B11.out.size)); clear b12; have HG12 := Lib.hid SG; clear SG)
                  | (go_at_call 34; refine (ref3_Neg VX kX dX x0 _ (KX.out.below B12.out (Nat.le_refl _))).mono ?_; rintro e w13 ⟨rfl, b13⟩; have HG13 := Lib.hid (HG12.out.below b13 (Nat.le_refl _)); have B13 := Lib.hid (Below.trans B12.out (Below.mono b13 B12.out.size)); clear b13)
                  | (go_at_call 30; refine (law_binary _ _ _ _ _ _ _ _ _ _ _ m0 h0 _ HG13.out (nm_neg (KX.out.below B13.out (Nat.le_refl _))) (by omega)).mono ?_; rintro e w14 ⟨rfl, b14⟩; have B14 := Lib.hid (Below.trans B13.out (Below.mono b14 B13.out.size)); clear b14))
        go_wp2_with fail
        go_ret
        exact ⟨rfl, HB4.out.trans (B14.out.mono HB4.out.size)⟩
      · have hno : (isN n0 && isN n1) = false ∨ n0 ≠ n1 := by
          cases h1 : isN n1
          · exact .inl (by simp [h0])
          · exact .inr (fun e => hs ⟨h1, e⟩)
        go_enter Tryd.func9, Tryd.ntmps9
        go_wp2_with fail
        refine (law_long2 _ A0 A1 n0 c0 n1 c1 m0 m1 _ (by simp [go_sem]) (by simp [go_sem])).mono ?_
        rintro e w1 ⟨rfl, rfl⟩
        rw [hl]
        go_wp2_with fail
        refine (ref3_Value _ _ _ _ _ (FS0.out.alloc _) HF0.out (by omega)).mono ?_
        rintro e w2 ⟨⟨VX, kX, dX, rfl, bX, NX⟩, B⟩
        have HB2 := Lib.hid ((HB0.out.alloc HB0.out.size _).trans (B.mono (HB0.out.alloc HB0.out.size _).size))
        have FT_2 := Lib.hid ((HT.out.alloc _).below B (Nat.le_refl _))
        have FS0_2 := Lib.hid ((FS0.out.alloc _).below B (Nat.le_refl _))
        have FS1_2 := Lib.hid ((FS1.out.alloc _).below B (Nat.le_refl _))
        have FX_2 := Lib.hid NX
        clear B NX HB0 HT FS0 FS1
        go_wp2_with fail
        refine (ref3_Value _ _ _ _ _ FS1_2.out HF1.out (by omega)).mono ?_
        rintro e w3 ⟨⟨VY, kY, dY, rfl, bY, NY⟩, B⟩
        have HB3 := Lib.hid (HB2.out.trans (B.mono HB2.out.size))
        have FT_3 := Lib.hid (FT_2.out.below B (Nat.le_refl _))
        have FS0_3 := Lib.hid (FS0_2.out.below B (Nat.le_refl _))
        have FS1_3 := Lib.hid (FS1_2.out.below B (Nat.le_refl _))
        have FX_3 := Lib.hid (FX_2.out.below B (Nat.le_refl _))
        have FY_3 := Lib.hid NY
        clear B NY HB2 FT_2 FS0_2 FS1_2 FX_2
        go_upto_region 4 with (fail)
        have hb4 := ((Below.refl w3.heap.size w3).alloc (Nat.le_refl _) (.cells #[.int .i64 (sg x0), .slice VX kX dX] 31)).alloc (by simp) (.cells #[.int .i64 (sg x1), .slice VY kY dY] 31)
        have q4 : ((w3.alloc (.cells #[.int .i64 (sg x0), .slice VX kX dX] 31)).alloc (.cells #[.int .i64 (sg x1), .slice VY kY dY] 31)).cell? ⟨w3.heap.size, 0, none⟩ = some (.int .i64 (sg x0)) ∧ ((w3.alloc (.cells #[.int .i64 (sg x0), .slice VX kX dX] 31)).alloc (.cells #[.int .i64 (sg x1), .slice VY kY dY] 31)).cell? ⟨w3.heap.size, 1, none⟩ = some (.slice VX kX dX) ∧ ((w3.alloc (.cells #[.int .i64 (sg x0), .slice VX kX dX] 31)).alloc (.cells #[.int .i64 (sg x1), .slice VY kY dY] 31)).cell? ⟨w3.heap.size + 1, 0, none⟩ = some (.int .i64 (sg x1)) ∧ ((w3.alloc (.cells #[.int .i64 (sg x0), .slice VX kX dX] 31)).alloc (.cells #[.int .i64 (sg x1), .slice VY kY dY] 31)).cell? ⟨w3.heap.size + 1, 1, none⟩ = some (.slice VY kY dY) := ⟨by simp [go_sem], by simp [go_sem], by simp [go_sem], by simp [go_sem]⟩
        have p3 : w3.heap.size + 1 < ((w3.alloc (.cells #[.int .i64 (sg x0), .slice VX kX dX] 31)).alloc (.cells #[.int .i64 (sg x1), .slice VY kY dY] 31)).heap.size := by simp
        generalize ((w3.alloc (.cells #[.int .i64 (sg x0), .slice VX kX dX] 31)).alloc (.cells #[.int .i64 (sg x1), .slice VY kY dY] 31)) = w4 at *
        have HB4 := Lib.hid (HB3.out.trans (hb4.mono HB3.out.size)); have Q4 := Lib.hid q4
        have KT := Lib.hid (FT_3.out.below hb4 (Nat.le_refl _))
        have KS0 := Lib.hid (FS0_3.out.below hb4 (Nat.le_refl _))
        have KS1 := Lib.hid (FS1_3.out.below hb4 (Nat.le_refl _))
        have KX := Lib.hid (FX_3.out.below hb4 (Nat.le_refl _))
        have KY := Lib.hid (FY_3.out.below hb4 (Nat.le_refl _))
        have f5 : ∀ w', Below w4.heap.size w4 w' → w'.cell? ⟨w3.heap.size, 0, none⟩ = some (.int .i64 (sg x0)) ∧ w'.cell? ⟨w3.heap.size, 1, none⟩ = some (.slice VX kX dX) ∧ w'.cell? ⟨w3.heap.size + 1, 0, none⟩ = some (.int .i64 (sg x1)) ∧ w'.cell? ⟨w3.heap.size + 1, 1, none⟩ = some (.slice VY kY dY) := fun w' hb => ⟨(hb.cell (p := ⟨w3.heap.size, 0, none⟩) (Nat.lt_of_succ_lt p3)).trans Q4.out.1, (hb.cell (p := ⟨w3.heap.size, 1, none⟩) (Nat.lt_of_succ_lt p3)).trans Q4.out.2.1, (hb.cell (p := ⟨w3.heap.size + 1, 0, none⟩) p3).trans Q4.out.2.2.1, (hb.cell (p := ⟨w3.heap.size + 1, 1, none⟩) p3).trans Q4.out.2.2.2⟩
        have F5 := Lib.hid f5
        clear f5 q4 hb4 FT_3 FS0_3 FS1_3 FX_3 FY_3 HB3
        go_region_held3 (fun w' => w'.cell? ⟨w3.heap.size, 0, none⟩ = some (.int .i64 (sg x0)) ∧ w'.cell? ⟨w3.heap.size, 1, none⟩ = some (.slice VX kX dX) ∧ w'.cell? ⟨w3.heap.size + 1, 0, none⟩ = some (.int .i64 (sg x1)) ∧ w'.cell? ⟨w3.heap.size + 1, 1, none⟩ = some (.slice VY kY dY)) (first | exact Q4.out | exact F5.out _ B10.out | exact F5.out _ B9.out | exact F5.out _ B8.out | exact F5.out _ B7.out | exact F5.out _ B6.out | exact F5.out _ B5.out) (first
                  | (go_at_call 23; refine (limb_Add_no A0 A1 n0 c0 n1 c1 _ (lmb x0) (lmb x1) KS0.out.drew KS1.out.drew hno).mono ?_; rintro e w5 ⟨rfl, b5⟩; have B5 := Lib.hid (Below.trans (Below.drew (Below.refl w4.heap.size w4)) b5); clear b5)
                  | (go_at_call 31; refine (ref3_Add VX VY kX dX kY dY x0 x1 _ (KX.out.below B5.out (Nat.le_refl _)) (KY.out.below B5.out (Nat.le_refl _)) (by omega) (by omega)).mono ?_; rintro e w6 ⟨⟨VPAdd, kPAdd, dPAdd, rfl, bPAdd, NP6⟩, b6⟩; have B6 := Lib.hid (Below.trans B5.out (Below.mono b6 B5.out.size)); clear b6; have HP6 := Lib.hid NP6; clear NP6)
                  | (go_at_call 32; refine (limb_Sub_no A0 A1 n0 c0 n1 c1 _ (lmb x0) (lmb x1) (by first | exact (KS0.out.below B7.out (Nat.le_refl _)) | exact KS0.out.drew) (by first | exact (KS1.out.below B7.out (Nat.le_refl _)) | exact KS1.out.drew) hno).mono ?_; rintro e w8 ⟨rfl, b8⟩; have B8 := Lib.hid (Below.trans B7.out (Below.mono b8 B7.out.size)); clear b8)
                  | (go_at_call 27; refine (ref3_Sub VX VY kX dX kY dY x0 x1 _ (KX.out.below B8.out (Nat.le_refl _)) (KY.out.below B8.out (Nat.le_refl _)) (by omega) (by omega)).mono ?_; rintro e w9 ⟨⟨VPSub, kPSub, dPSub, rfl, bPSub, NP9⟩, b9⟩; have B9 := Lib.hid (Below.trans B8.out (Below.mono b9 B8.out.size)); clear b9; have HP9 := Lib.hid NP9; clear NP9)
                  | (go_at_call 30; refine (law_binary_no _ _ _ _ _ _ _ _ _ _ m0 m1 hno _).mono ?_; rintro e wb ⟨rfl, bb⟩; (first | (have B10 := Lib.hid (Below.trans B9.out (Below.mono bb B9.out.size))) | (have B7 := Lib.hid (Below.trans B6.out (Below.mono bb B6.out.size)))); clear bb))
        go_upto_region 6 with (fail)
        clear B9 B8 B7 B6 B5
        go_region_held3 (fun w' => w'.cell? ⟨w3.heap.size, 0, none⟩ = some (.int .i64 (sg x0)) ∧ w'.cell? ⟨w3.heap.size, 1, none⟩ = some (.slice VX kX dX) ∧ w'.cell? ⟨w3.heap.size + 1, 0, none⟩ = some (.int .i64 (sg x1)) ∧ w'.cell? ⟨w3.heap.size + 1, 1, none⟩ = some (.slice VY kY dY)) (first | exact F5.out _ B14.out | exact F5.out _ B13.out | exact F5.out _ B12.out | exact F5.out _ B11.out | exact F5.out _ B10.out | exact F5.out _ B10.out.drew) (first
                  | (go_at_call 11; refine (alive3 _ (KT.out.below B10.out.drew (Nat.le_refl _))).mono ?_; rintro e w11 ⟨rfl, b11⟩; have B11 := Lib.hid (Below.trans B10.out.drew (Below.mono b11 B10.out.drew.size)); clear b11)
                  | (go_at_call 33; refine (limb_Neg A0 n0 c0 x0 _ (KS0.out.below B11.out (Nat.le_refl _)) h0).mono ?_; rintro e w12 ⟨GN, cgN, rfl, SG, b12⟩; have B12 := Lib.hid (Below.trans B11.out (Below.mono b12 B11.out.size)); clear b12; have HG12 := Lib.hid SG; clear SG)
                  | (go_at_call 34; refine (ref3_Neg VX kX dX x0 _ (KX.out.below B12.out (Nat.le_refl _))).mono ?_; rintro e w13 ⟨rfl, b13⟩; have HG13 := Lib.hid (HG12.out.below b13 (Nat.le_refl _)); have B13 := Lib.hid (Below.trans B12.out (Below.mono b13 B12.out.size)); clear b13)
                  | (go_at_call 30; refine (law_binary _ _ _ _ _ _ _ _ _ _ _ m0 h0 _ HG13.out (nm_neg (KX.out.below B13.out (Nat.le_refl _))) (by omega)).mono ?_; rintro e w14 ⟨rfl, b14⟩; have B14 := Lib.hid (Below.trans B13.out (Below.mono b14 B13.out.size)); clear b14))
        go_wp2_with fail
        go_ret
        exact ⟨rfl, HB4.out.trans (B14.out.mono HB4.out.size)⟩
  · go_enter Tryd.func9, Tryd.ntmps9
    go_wp2_with fail
    refine (law_long2 _ A0 A1 n0 c0 n1 c1 m0 m1 _ (by simp [go_sem]) (by simp [go_sem])).mono ?_
    rintro e w1 ⟨rfl, rfl⟩
    rw [hl]
    go_wp2_with fail
    refine (alive3 _ (HT.out.alloc _)).mono ?_
    rintro e w2 ⟨rfl, B⟩
    have HB2 := Lib.hid ((HB0.out.alloc HB0.out.size _).trans (B.mono (HB0.out.alloc HB0.out.size _).size))
    have FT_2 := Lib.hid ((HT.out.alloc _).below B (Nat.le_refl _))
    have FS0_2 := Lib.hid ((FS0.out.alloc _).below B (Nat.le_refl _))
    have FS1_2 := Lib.hid ((FS1.out.alloc _).below B (Nat.le_refl _))
    clear B  HB0 HT FS0 FS1
    go_wp2_with fail
    go_ret
    exact ⟨rfl, HB2.out⟩

theorem gTab0 : Tryd.prog.globalNamed "geofence/mask.words" = some 0 := by kernel_rfl
theorem gTabType : (Tryd.prog.globals[0]?).map (·.type) = some 69 := by kernel_rfl
theorem cellsT : Tryd.prog.cellsOf 69 = 2 := by kernel_rfl
theorem cellsE : Tryd.prog.cellsOf 38 = 1 := by kernel_rfl
theorem tableIs {W : World} (h : laidMetH Tryd.prog Rows.limbAddsRow.laid W) : Lib.TabIs Tryd.prog W "geofence/mask.words" .u64 [9223372036854775808, 18446744073709551615] :=
  Lib.tabIs_of_head (rest := _) gTab0 gTabType Tryd.underlying69 Tryd.underlying38 cellsE cellsT h
theorem table {W : World} (h : laidMetH Tryd.prog Rows.limbAddsRow.laid W) : TabM W := ⟨(tableIs h).cell gTab0 0 (by decide), (tableIs h).cell gTab0 1 (by decide)⟩

theorem contract (H : Type) (enc : TypeId × Value → H) (W : World) (base : Nat) (args : Array Value) (ds gs : List (DataW H)) (before : List MemPlace)
    (hval : ∀ (j : Nat) t v, Tryd.f9.params[j]? = some t → args[j]? = some v → Value.okWide Tryd.prog W .any base t v)
    (hW : DataW.Whole enc Tryd.prog Tryd.f9.params.toList Rows.limbAddsSpec.vars false W args.toList ds gs before) (hL : laidMetH Tryd.prog Rows.limbAddsRow.laid W) :
    Calls Tryd.prog 9 args W fun e W' => ∃ v, e = .returned v ∧ Rows.limbAddsSpec.post enc Tryd.prog Tryd.f9 false true false false W args v W' := by
  have hW' := hW
  obtain ⟨p, q, hA0, hV, rfl, hfz, hnd⟩ := hW
  have hA : DataW.TrodAll enc Tryd.prog W 0 (fun _ => true) true Tryd.f9.params.toList args.toList ds p := hA0
  rw [Tryd.params9] at hA hval
  obtain ⟨v0, vs0, d0, ds0, p0, q0, hargs, rfl, rfl, h0, r0⟩ := trodAll_cons hA
  obtain ⟨v1, vs1, d1, ds1, p1, q1, rfl, rfl, rfl, h1, r1⟩ := trodAll_cons r0
  obtain ⟨rfl, rfl, rfl⟩ := trodAll_nil r1
  obtain rfl : args = #[v0, v1] := by cases args; simp_all
  obtain ⟨rfl, rfl⟩ := trodVars_none hV
  have k0 := h0
  have lt0 : ∀ x ∈ p0, x.block < W.heap.size := by obtain ⟨m, hm⟩ := k0; exact DataW.trod_lt m _ _ _ hm
  have k1 := h1
  have lt1 : ∀ x ∈ p1, x.block < W.heap.size := by obtain ⟨m, hm⟩ := k1; exact DataW.trod_lt m _ _ _ hm
  obtain ⟨A0, n0, c0, rfl⟩ := okWide_slice Tryd.underlying22 (hval 0 22 v0 rfl rfl)
  obtain ⟨x0, f0, s0⟩ := Op.open_words (w := W) Tryd.underlying22 Tryd.underlying38 (by kernel_rfl) h0
  obtain ⟨A1, n1, c1, rfl⟩ := okWide_slice Tryd.underlying22 (hval 1 22 v1 rfl rfl)
  obtain ⟨x1, f1, s1⟩ := Op.open_words (w := W) Tryd.underlying22 Tryd.underlying38 (by kernel_rfl) h1
  clear hA0
  refine (walk A0 n0 c0 x0 f0 s0 A1 n1 c1 x1 f1 s1 (table hL)).mono fun e W' ⟨he, bel⟩ => ?_
  subst he
  exact ⟨_, rfl, _, _, _, [], _, [], hW', trodAll_mk1 (shut_bool Tryd.underlying4 _), (trodAll_cons_mk (Below.trod laidOut (by kernel_rfl) (of_decide_eq_true (by kernel_rfl)) k0 bel lt0) (trodAll_cons_mk (Below.trod laidOut (by kernel_rfl) (of_decide_eq_true (by kernel_rfl)) k1 bel lt1) trodAll_mk0)), rfl, bel.frame _, fun h => by cases h⟩

noncomputable def laidWorld (os : Os) : World :=
  { World.holding Tryd.prog os ⟨#[], #[], []⟩ with heap := (World.holding Tryd.prog os ⟨#[], #[], []⟩).heap.modify 0 fun
      | .cells _ t frozen => .cells #[.int .u64 9223372036854775808, .int .u64 18446744073709551615] t frozen
      | o => o }
theorem laid_met (os : Os) : laidMet Tryd.prog Rows.limbAddsRow.laid ((laidWorld os).forCall (fun _ _ => 0) ⟨#[], #[.slice none 0 0, .slice none 0 0], []⟩).memory :=
  laidMet_of_run' 8 (by kernel_rfl) (by kernel_rfl)
theorem reads (os : Os) {H : Type} (enc : TypeId × Value → H) : ∃ places, DataW.whole enc Tryd.prog ((laidWorld os).forCall (fun _ _ => 0) ⟨#[], #[.slice none 0 0, .slice none 0 0], []⟩).memory Tryd.f9.params.toList Rows.limbAddsSpec.vars false (#[.slice none 0 0, .slice none 0 0] : Array Value).toList 8 = some ([.nil, .nil], [], places) :=
  ⟨[], by kernel_rfl⟩

set_option maxRecDepth 100000 in
theorem lifted (os : Os) (started : os.Started) (H : Type) (enc : TypeId × Value → H) (F : Stop.Interp) :
    ReturnsInHanded {} Tryd.checked os 9 .any ((OpenSpec.ofChange Rows.limbAddsSpec).preRow enc Tryd.prog Tryd.f9 Rows.limbAddsRow.domain false Rows.limbAddsRow.laid) (((OpenSpec.ofChange Rows.limbAddsSpec).at F).post enc Tryd.prog Tryd.f9 false true false false) := by
  obtain ⟨places, hx⟩ := reads os enc
  refine returnsInHanded_of_row (C := Tryd.checked) (s := OpenSpec.ofChange Rows.limbAddsSpec) own started (by kernel_rfl) Tryd.func9
    (witness_row_at (enc := enc) (C := Tryd.checked) false (laidWorld os) #[.slice none 0 0, .slice none 0 0] rfl (by kernel_rfl) (by kernel_rfl) (by kernel_rfl)
      (OpenSpec.preRow_of_cond 8 hx (by kernel_rfl) (fun k hk => by cases hk) (by kernel_rfl) (laid_met os))) ?_
  intro W base args ds gs before hval hW _ _ _ hL _ _
  exact contract H enc W base args ds gs before hval hW hL

theorem said : Rows.LimbAddsSaid :=
  OpenClaim.holds_of_cond 9 Tryd.f9 rfl rfl rfl rfl rfl rfl rfl ⟨rfl, rfl, rfl, rfl, rfl⟩ rfl rfl rfl rfl rfl (by kernel_rfl) Tryd.func9 (by kernel_rfl)
    (of_decide_eq_true (by kernel_rfl)) (by unfold Func.isWrapper; first | (rw [if_pos (by decide +kernel)]; kernel_rfl) | (rw [if_neg (by decide +kernel)]; exact ⟨rfl, rfl⟩))
    (fun os started H enc _ F => by rw [OpenClaim.pre_eq_preRow]; exact lifted os started H enc F)

theorem plain (f : FuncId) (fn : Func) (hf : Tryd.pinned.checked.prog.funcNamed "geofence/geofencelaw03.LimbAdds" = some f) (hfn : Tryd.pinned.checked.prog.funcs[f]? = some fn) :
    false = Tryd.pinned.checked.prog.looks [] ∧ ∀ (j : Nat) t, fn.params[j]? = some t → Tryd.pinned.checked.prog.wantsStandIn t = false := by
  obtain rfl : f = 9 := Option.some.inj ((show Tryd.prog.funcNamed "geofence/geofencelaw03.LimbAdds" = some 9 by kernel_rfl).symm.trans hf) |>.symm
  obtain rfl : fn = Tryd.f9 := (Option.some.inj (Tryd.func9.symm.trans hfn)).symm
  refine ⟨by kernel_rfl, fun j t ht => ?_⟩
  rw [Tryd.params9] at ht
  have hm := Array.mem_of_getElem? ht
  simp at hm
  obtain rfl := hm
  exact (show Tryd.prog.wantsStandIn 22 = false by kernel_rfl)

/-- THE CARD -/
theorem card : Rows.LimbAddsCardSaid :=
  Claim7.holds_tied_plain_at .later [] _ _ _ _ said (fun _ h => by cases h) (by kernel_rfl) (fun _ h => by cases h) limbAdds_row_tie rfl ⟨rfl, rfl⟩ (by kernel_rfl) rfl plain (by kernel_rfl)
#print axioms card
end Go.Proofs.YteadkjbdbljbfaaDoor.limbAdds
