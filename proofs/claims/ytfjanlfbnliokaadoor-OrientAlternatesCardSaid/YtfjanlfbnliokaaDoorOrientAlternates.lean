/- OrientAlternates: for every input the law returns true, and each argument reads afterwards as it read before; the package variable that the row lists holds what it lists. -/
import Derived.Test.YtfjanlfbnliokaaDoorCards
import Derived.Test.YtfjanlfbnliokaaDoorTie
import Derived.Test.YtfjanlfbnliokaaDoorLaw6
import Derived.Test.YtfjanlfbnliokaaDoorOpenPt
import Derived.WalkKit
import Derived.ProofKit
import Derived.OpenShut
import Derived.Below
import Derived.Deep.DeepHandedRow
import Derived.Lib.LaidTab
import Derived.Test.YtfjanlfbnliokaaDoorTab
namespace Go.Proofs.YtfjanlfbnliokaaDoor.orientAlternates
open Go.ChangeShapes Go.WideShapes Go.ChangeAt Go.RowKit Wd
set_option linter.unusedVariables false
set_option linter.unusedSimpArgs false

theorem own : ownKnob Tryd.prog.godebug = none := by kernel_rfl
theorem laidOut : laidOutB Tryd.prog = true := by kernel_rfl

set_option maxHeartbeats 4000000 in
theorem walk {w : World} (a0 b0 : Int) (w0 : (Lit.int .i64 a0).wf = true) (x0 : (Lit.int .i64 b0).wf = true) (a1 b1 : Int) (w1 : (Lit.int .i64 a1).wf = true) (x1 : (Lit.int .i64 b1).wf = true) (a2 b2 : Int) (w2 : (Lit.int .i64 a2).wf = true) (x2 : (Lit.int .i64 b2).wf = true) (hT : TabM w) (hW : TabO w) :
    Calls Tryd.prog 5 #[.agg #[.int .i64 a0, .int .i64 b0], .agg #[.int .i64 a1, .int .i64 b1], .agg #[.int .i64 a2, .int .i64 b2]] w fun e w' => e = .returned (.bool true) ∧ Below w.heap.size w w' := by
  have HB0 := Lib.hid (Below.refl w.heap.size w)
  have ia0 := isI_of_wf w0
  have ib0 := isI_of_wf x0
  have ia1 := isI_of_wf w1
  have ib1 := isI_of_wf x1
  have ia2 := isI_of_wf w2
  have ib2 := isI_of_wf x2
  have FT := Lib.hid hT; clear hT
  have FW := Lib.hid hW; clear hW
  have r0 := sign_range (det a0 b0 a1 b1 a2 b2)
  have hws := wrap_sg (det a0 b0 a1 b1 a2 b2)
  have hfd : ∀ (s : Int) (V : Option Addr) (k c : Nat) (w : World), (Instr.field 26 (.agg #[.int .i64 s, .slice V k c]) 0).run Tryd.prog w = .ok (.int .i64 s) w := fun _ _ _ _ _ => by kernel_rfl
  have q1 := (show P3 a0 b0 a1 b1 a2 b2 from ⟨ia0, ib0, ia1, ib1, ia2, ib2⟩)
  have q2 := (show P3 a1 b1 a0 b0 a2 b2 from ⟨ia1, ib1, ia0, ib0, ia2, ib2⟩)
  have q3 := (show P3 a1 b1 a2 b2 a0 b0 from ⟨ia1, ib1, ia2, ib2, ia0, ib0⟩)
  have q4 := (show P3 a2 b2 a0 b0 a1 b1 from ⟨ia2, ib2, ia0, ib0, ia1, ib1⟩)
  have z12 := Lib.hid (show det a0 b0 a1 b1 a2 b2 + det a1 b1 a0 b0 a2 b2 = 0 from det_swap _ _ _ _ _ _)
  have e3 := Lib.hid (show det a1 b1 a2 b2 a0 b0 = det a0 b0 a1 b1 a2 b2 from det_rot _ _ _ _ _ _); have e4 := Lib.hid (show det a2 b2 a0 b0 a1 b1 = det a0 b0 a1 b1 a2 b2 from det_rot2 _ _ _ _ _ _)
  have e5 := Lib.hid (show sg (det a0 b0 a2 b2 a1 b1) = -(sg (det a0 b0 a1 b1 a2 b2)) from sg_swap _ _ _ _ _ _)
  go_enter Tryd.func5, Tryd.ntmps5
  go_wp2_with fail
  have B : Below w.heap.size w (((w.alloc (.cells #[.int .i64 a0, .int .i64 b0] 23)).alloc (.cells #[.int .i64 a1, .int .i64 b1] 23)).alloc (.cells #[.int .i64 a2, .int .i64 b2] 23)) := (((HB0.out.alloc HB0.out.size _).alloc (HB0.out.alloc HB0.out.size _).size _).alloc ((HB0.out.alloc HB0.out.size _).alloc (HB0.out.alloc HB0.out.size _).size _).size _)
  have C : Below w.heap.size w (((w.alloc (.cells #[.int .i64 a0, .int .i64 b0] 23)).alloc (.cells #[.int .i64 a1, .int .i64 b1] 23)).alloc (.cells #[.int .i64 a2, .int .i64 b2] 23)) := ((((Below.refl w.heap.size w).alloc (Nat.le_refl _) _).alloc (by simp; try omega) _).alloc (by simp; try omega) _)
  have X0 : Bx (((w.alloc (.cells #[.int .i64 a0, .int .i64 b0] 23)).alloc (.cells #[.int .i64 a1, .int .i64 b1] 23)).alloc (.cells #[.int .i64 a2, .int .i64 b2] 23)) (w.heap.size) #[.int .i64 a0, .int .i64 b0] 23 := by simpa using (((Bx.new w #[.int .i64 a0, .int .i64 b0] 23).alloc _).alloc _)
  have X1 : Bx (((w.alloc (.cells #[.int .i64 a0, .int .i64 b0] 23)).alloc (.cells #[.int .i64 a1, .int .i64 b1] 23)).alloc (.cells #[.int .i64 a2, .int .i64 b2] 23)) (w.heap.size + 1) #[.int .i64 a1, .int .i64 b1] 23 := by simpa using ((Bx.new (w.alloc (.cells #[.int .i64 a0, .int .i64 b0] 23)) #[.int .i64 a1, .int .i64 b1] 23).alloc _)
  have X2 : Bx (((w.alloc (.cells #[.int .i64 a0, .int .i64 b0] 23)).alloc (.cells #[.int .i64 a1, .int .i64 b1] 23)).alloc (.cells #[.int .i64 a2, .int .i64 b2] 23)) (w.heap.size + 1 + 1) #[.int .i64 a2, .int .i64 b2] 23 := by simpa using (Bx.new ((w.alloc (.cells #[.int .i64 a0, .int .i64 b0] 23)).alloc (.cells #[.int .i64 a1, .int .i64 b1] 23)) #[.int .i64 a2, .int .i64 b2] 23)
  have FT_1 := Lib.hid (FT.out.below C (Nat.le_refl _))
  have FW_1 := Lib.hid (FW.out.below C (Nat.le_refl _))
  have HB1 := Lib.hid B
  have FP_1 := Lib.hid X0
  have FQ_1 := Lib.hid X1
  have FR_1 := Lib.hid X2
  clear B C X0 X1 X2 HB0 FT FW
  generalize (((w.alloc (.cells #[.int .i64 a0, .int .i64 b0] 23)).alloc (.cells #[.int .i64 a1, .int .i64 b1] 23)).alloc (.cells #[.int .i64 a2, .int .i64 b2] 23)) = w1 at *
  have RB1 := Lib.hid (below_drew0 w1)
  have QS1 := Lib.hid (show w1.cell? ⟨w.heap.size, 0, none⟩ = some (.int .i64 a0) ∧ w1.cell? ⟨w.heap.size, 1, none⟩ = some (.int .i64 b0) ∧ w1.cell? ⟨w.heap.size + 1, 0, none⟩ = some (.int .i64 a1) ∧ w1.cell? ⟨w.heap.size + 1, 1, none⟩ = some (.int .i64 b1) ∧ w1.cell? ⟨w.heap.size + 1 + 1, 0, none⟩ = some (.int .i64 a2) ∧ w1.cell? ⟨w.heap.size + 1 + 1, 1, none⟩ = some (.int .i64 b2) from ⟨FP_1.out.cell 0 (v := .int .i64 a0) rfl, FP_1.out.cell 1 (v := .int .i64 b0) rfl, FQ_1.out.cell 0 (v := .int .i64 a1) rfl, FQ_1.out.cell 1 (v := .int .i64 b1) rfl, FR_1.out.cell 0 (v := .int .i64 a2) rfl, FR_1.out.cell 1 (v := .int .i64 b2) rfl⟩)
  have QF1 := Lib.hid (show ∀ w', Below w1.heap.size w1 w' → w'.cell? ⟨w.heap.size, 0, none⟩ = some (.int .i64 a0) ∧ w'.cell? ⟨w.heap.size, 1, none⟩ = some (.int .i64 b0) ∧ w'.cell? ⟨w.heap.size + 1, 0, none⟩ = some (.int .i64 a1) ∧ w'.cell? ⟨w.heap.size + 1, 1, none⟩ = some (.int .i64 b1) ∧ w'.cell? ⟨w.heap.size + 1 + 1, 0, none⟩ = some (.int .i64 a2) ∧ w'.cell? ⟨w.heap.size + 1 + 1, 1, none⟩ = some (.int .i64 b2) from fun w' hb => ⟨(FP_1.out.below hb (Nat.le_refl _)).cell 0 (v := .int .i64 a0) rfl, (FP_1.out.below hb (Nat.le_refl _)).cell 1 (v := .int .i64 b0) rfl, (FQ_1.out.below hb (Nat.le_refl _)).cell 0 (v := .int .i64 a1) rfl, (FQ_1.out.below hb (Nat.le_refl _)).cell 1 (v := .int .i64 b1) rfl, (FR_1.out.below hb (Nat.le_refl _)).cell 0 (v := .int .i64 a2) rfl, (FR_1.out.below hb (Nat.le_refl _)).cell 1 (v := .int .i64 b2) rfl⟩)
  go_region_held3 (fun w' => w'.cell? ⟨w.heap.size, 0, none⟩ = some (.int .i64 a0) ∧ w'.cell? ⟨w.heap.size, 1, none⟩ = some (.int .i64 b0) ∧ w'.cell? ⟨w.heap.size + 1, 0, none⟩ = some (.int .i64 a1) ∧ w'.cell? ⟨w.heap.size + 1, 1, none⟩ = some (.int .i64 b1) ∧ w'.cell? ⟨w.heap.size + 1 + 1, 0, none⟩ = some (.int .i64 a2) ∧ w'.cell? ⟨w.heap.size + 1 + 1, 1, none⟩ = some (.int .i64 b2)) (first | with_reducible exact QF1.out _ RB3.out | with_reducible exact QF1.out _ RB2.out | with_reducible exact QS1.out | with_reducible exact QF1.out _ RB1.out) (first
      | (go_at_call 18; have := RB2; clear this; refine (orient_Value a1 b1 a0 b0 a2 b2 (show P3 a1 b1 a0 b0 a2 b2 from ⟨ia1, ib1, ia0, ib0, ia2, ib2⟩) _).mono ?_; rintro e w3 ⟨⟨U2, u2, rfl, S2⟩, B⟩; have RB3 := Lib.hid (RB2.out.trans (B.mono RB2.out.size)); have RV1_3 := Lib.hid (RV1_2.out.below B (Nat.le_refl _)); have RV2_3 := Lib.hid S2; clear B S2)
      | (go_at_call 18; have := RB1; clear this; refine (orient_Value a0 b0 a1 b1 a2 b2 (show P3 a0 b0 a1 b1 a2 b2 from ⟨ia0, ib0, ia1, ib1, ia2, ib2⟩) _).mono ?_; rintro e w2 ⟨⟨U1, u1, rfl, S1⟩, B⟩; have RB2 := Lib.hid (RB1.out.trans (B.mono RB1.out.size)); have RV1_2 := Lib.hid S1; clear B S1))
  have FT_3 := Lib.hid (FT_1.out.below RB3.out (Nat.le_refl _))
  have FW_3 := Lib.hid (FW_1.out.below RB3.out (Nat.le_refl _))
  have FP_3 := Lib.hid (FP_1.out.below RB3.out (Nat.le_refl _))
  have FQ_3 := Lib.hid (FQ_1.out.below RB3.out (Nat.le_refl _))
  have FR_3 := Lib.hid (FR_1.out.below RB3.out (Nat.le_refl _))
  have HB3 := Lib.hid (HB1.out.trans (RB3.out.mono HB1.out.size))
  clear HB1 FT_1 FW_1 FP_1 FQ_1 FR_1
  go_wp2_with fail
  have RB3 := Lib.hid (below_drew0 w3)
  have QS3 := Lib.hid (show w3.cell? ⟨w.heap.size, 0, none⟩ = some (.int .i64 a0) ∧ w3.cell? ⟨w.heap.size, 1, none⟩ = some (.int .i64 b0) ∧ w3.cell? ⟨w.heap.size + 1, 0, none⟩ = some (.int .i64 a1) ∧ w3.cell? ⟨w.heap.size + 1, 1, none⟩ = some (.int .i64 b1) ∧ w3.cell? ⟨w.heap.size + 1 + 1, 0, none⟩ = some (.int .i64 a2) ∧ w3.cell? ⟨w.heap.size + 1 + 1, 1, none⟩ = some (.int .i64 b2) from ⟨FP_3.out.cell 0 (v := .int .i64 a0) rfl, FP_3.out.cell 1 (v := .int .i64 b0) rfl, FQ_3.out.cell 0 (v := .int .i64 a1) rfl, FQ_3.out.cell 1 (v := .int .i64 b1) rfl, FR_3.out.cell 0 (v := .int .i64 a2) rfl, FR_3.out.cell 1 (v := .int .i64 b2) rfl⟩)
  have QF3 := Lib.hid (show ∀ w', Below w3.heap.size w3 w' → w'.cell? ⟨w.heap.size, 0, none⟩ = some (.int .i64 a0) ∧ w'.cell? ⟨w.heap.size, 1, none⟩ = some (.int .i64 b0) ∧ w'.cell? ⟨w.heap.size + 1, 0, none⟩ = some (.int .i64 a1) ∧ w'.cell? ⟨w.heap.size + 1, 1, none⟩ = some (.int .i64 b1) ∧ w'.cell? ⟨w.heap.size + 1 + 1, 0, none⟩ = some (.int .i64 a2) ∧ w'.cell? ⟨w.heap.size + 1 + 1, 1, none⟩ = some (.int .i64 b2) from fun w' hb => ⟨(FP_3.out.below hb (Nat.le_refl _)).cell 0 (v := .int .i64 a0) rfl, (FP_3.out.below hb (Nat.le_refl _)).cell 1 (v := .int .i64 b0) rfl, (FQ_3.out.below hb (Nat.le_refl _)).cell 0 (v := .int .i64 a1) rfl, (FQ_3.out.below hb (Nat.le_refl _)).cell 1 (v := .int .i64 b1) rfl, (FR_3.out.below hb (Nat.le_refl _)).cell 0 (v := .int .i64 a2) rfl, (FR_3.out.below hb (Nat.le_refl _)).cell 1 (v := .int .i64 b2) rfl⟩)
  go_region_held3 (fun w' => w'.cell? ⟨w.heap.size, 0, none⟩ = some (.int .i64 a0) ∧ w'.cell? ⟨w.heap.size, 1, none⟩ = some (.int .i64 b0) ∧ w'.cell? ⟨w.heap.size + 1, 0, none⟩ = some (.int .i64 a1) ∧ w'.cell? ⟨w.heap.size + 1, 1, none⟩ = some (.int .i64 b1) ∧ w'.cell? ⟨w.heap.size + 1 + 1, 0, none⟩ = some (.int .i64 a2) ∧ w'.cell? ⟨w.heap.size + 1 + 1, 1, none⟩ = some (.int .i64 b2)) (first | with_reducible exact QF3.out _ RB13.out | with_reducible exact QF3.out _ RB12.out | with_reducible exact QF3.out _ RB11.out | with_reducible exact QF3.out _ RB10.out | with_reducible exact QF3.out _ RB9.out | with_reducible exact QF3.out _ RB8.out | with_reducible exact QF3.out _ RB7.out | with_reducible exact QF3.out _ RB6.out | with_reducible exact QF3.out _ RB5.out | with_reducible exact QF3.out _ RB4.out | with_reducible exact QS3.out | with_reducible exact QF3.out _ RB3.out) (first
      | (go_at_call 20; have := RB12; clear this; refine (orient_Sign a0 b0 a2 b2 a1 b1 (show P3 a0 b0 a2 b2 a1 b1 from ⟨ia0, ib0, ia2, ib2, ia1, ib1⟩) _ (FT_3.out.below RB12.out (Nat.le_refl _))).mono ?_; rintro e w13 ⟨rfl, B⟩; have RB13 := Lib.hid (RB12.out.trans (B.mono RB12.out.size)); have RNx_13 := Lib.hid (RNx_12.out.below B (Nat.le_refl _)); have RNy_13 := Lib.hid (RNy_12.out.below B (Nat.le_refl _)); have RV3_13 := Lib.hid (RV3_12.out.below B (Nat.le_refl _)); have RV4_13 := Lib.hid (RV4_12.out.below B (Nat.le_refl _)); clear B ; rw [e5.out])
      | (go_at_call 20; have := RB11; clear this; refine (orient_Sign a0 b0 a1 b1 a2 b2 (show P3 a0 b0 a1 b1 a2 b2 from ⟨ia0, ib0, ia1, ib1, ia2, ib2⟩) _ (FT_3.out.below RB11.out (Nat.le_refl _))).mono ?_; rintro e w12 ⟨rfl, B⟩; have RB12 := Lib.hid (RB11.out.trans (B.mono RB11.out.size)); have RNx_12 := Lib.hid (RNx_11.out.below B (Nat.le_refl _)); have RNy_12 := Lib.hid (RNy_11.out.below B (Nat.le_refl _)); have RV3_12 := Lib.hid (RV3_11.out.below B (Nat.le_refl _)); have RV4_12 := Lib.hid (RV4_11.out.below B (Nat.le_refl _)); clear B )
      | (go_at_call 17; have := RB10; clear this; refine (ref3_Same _ _ _ _ _ _ _ _ (RV1_3.out.below RB10.out (Nat.le_refl _)) RV4_10.out (fun _ _ => by rw [e4.out])).mono ?_; rintro e w11 ⟨rfl, B⟩; have RB11 := Lib.hid (RB10.out.trans (B.mono RB10.out.size)); have RNx_11 := Lib.hid (RNx_10.out.below B (Nat.le_refl _)); have RNy_11 := Lib.hid (RNy_10.out.below B (Nat.le_refl _)); have RV3_11 := Lib.hid (RV3_10.out.below B (Nat.le_refl _)); have RV4_11 := Lib.hid (RV4_10.out.below B (Nat.le_refl _)); clear B )
      | (go_at_call 18; have := RB9; clear this; refine (orient_Value a2 b2 a0 b0 a1 b1 (show P3 a2 b2 a0 b0 a1 b1 from ⟨ia2, ib2, ia0, ib0, ia1, ib1⟩) _).mono ?_; rintro e w10 ⟨⟨U4, u4, rfl, S4⟩, B⟩; have RB10 := Lib.hid (RB9.out.trans (B.mono RB9.out.size)); have RNx_10 := Lib.hid (RNx_9.out.below B (Nat.le_refl _)); have RNy_10 := Lib.hid (RNy_9.out.below B (Nat.le_refl _)); have RV3_10 := Lib.hid (RV3_9.out.below B (Nat.le_refl _)); have RV4_10 := Lib.hid S4; clear B S4)
      | (go_at_call 17; have := RB8; clear this; refine (ref3_Same _ _ _ _ _ _ _ _ (RV1_3.out.below RB8.out (Nat.le_refl _)) RV3_8.out (fun _ _ => by rw [e3.out])).mono ?_; rintro e w9 ⟨rfl, B⟩; have RB9 := Lib.hid (RB8.out.trans (B.mono RB8.out.size)); have RNx_9 := Lib.hid (RNx_8.out.below B (Nat.le_refl _)); have RNy_9 := Lib.hid (RNy_8.out.below B (Nat.le_refl _)); have RV3_9 := Lib.hid (RV3_8.out.below B (Nat.le_refl _)); clear B )
      | (go_at_call 18; have := RB7; clear this; refine (orient_Value a1 b1 a2 b2 a0 b0 (show P3 a1 b1 a2 b2 a0 b0 from ⟨ia1, ib1, ia2, ib2, ia0, ib0⟩) _).mono ?_; rintro e w8 ⟨⟨U3, u3, rfl, S3⟩, B⟩; have RB8 := Lib.hid (RB7.out.trans (B.mono RB7.out.size)); have RNx_8 := Lib.hid (RNx_7.out.below B (Nat.le_refl _)); have RNy_8 := Lib.hid (RNy_7.out.below B (Nat.le_refl _)); have RV3_8 := Lib.hid S3; clear B S3)
      | (go_at_call 25; have := RB6; clear this; refine (ref3_AddZ _ _ _ _ _ _ _ _ 0 z12.out _ RNx_6.out RNy_6.out (by omega) (by omega)).mono ?_; rintro e w7 ⟨⟨Gz, gz, dz, rfl, bz_, Nz⟩, B⟩; have RB7 := Lib.hid (RB6.out.trans (B.mono RB6.out.size)); have RNx_7 := Lib.hid (RNx_6.out.below B (Nat.le_refl _)); have RNy_7 := Lib.hid (RNy_6.out.below B (Nat.le_refl _)); clear B ; clear Nz; rw [sg_zero])
      | (go_at_call 26; have := RB5; clear this; refine (ref3_Value _ _ _ _ _ (RV2_3.out.below RB5.out (Nat.le_refl _)) q2.fit (by omega)).mono ?_; rintro e w6 ⟨⟨Gy, gy, dy, rfl, by_, Ny⟩, B⟩; have RB6 := Lib.hid (RB5.out.trans (B.mono RB5.out.size)); have RNx_6 := Lib.hid (RNx_5.out.below B (Nat.le_refl _)); have RNy_6 := Lib.hid Ny; clear B Ny)
      | (go_at_call 26; have := RB4; clear this; refine (ref3_Value _ _ _ _ _ (RV1_3.out.below RB4.out (Nat.le_refl _)) q1.fit (by omega)).mono ?_; rintro e w5 ⟨⟨Gx, gx, dx, rfl, bx_, Nx⟩, B⟩; have RB5 := Lib.hid (RB4.out.trans (B.mono RB4.out.size)); have RNx_5 := Lib.hid Nx; clear B Nx)
      | (go_at_call 16; have := RB3; clear this; refine (alive6 _ (FT_3.out.below RB3.out (Nat.le_refl _)) (FW_3.out.below RB3.out (Nat.le_refl _))).mono ?_; rintro e w4 ⟨rfl, B⟩; have RB4 := Lib.hid (RB3.out.trans (B.mono RB3.out.size)); clear B ))
  have FT_13 := Lib.hid (FT_3.out.below RB13.out (Nat.le_refl _))
  have FW_13 := Lib.hid (FW_3.out.below RB13.out (Nat.le_refl _))
  have FP_13 := Lib.hid (FP_3.out.below RB13.out (Nat.le_refl _))
  have FQ_13 := Lib.hid (FQ_3.out.below RB13.out (Nat.le_refl _))
  have FR_13 := Lib.hid (FR_3.out.below RB13.out (Nat.le_refl _))
  have FV1_13 := Lib.hid (RV1_3.out.below RB13.out (Nat.le_refl _))
  have FV2_13 := Lib.hid (RV2_3.out.below RB13.out (Nat.le_refl _))
  have HB13 := Lib.hid (HB3.out.trans (RB13.out.mono HB3.out.size))
  clear HB3 FT_3 FW_3 FP_3 FQ_3 FR_3 RV1_3 RV2_3
  go_wp2_with fail
  go_ret
  exact ⟨rfl, HB13.out⟩

theorem gTab0 : Tryd.prog.globalNamed "geofence/mask.words" = some 1 := by kernel_rfl
theorem gTabType0 : (Tryd.prog.globals[1]?).map (·.type) = some 69 := by kernel_rfl
theorem cellsT0 : Tryd.prog.cellsOf 69 = 2 := by kernel_rfl
theorem cellsE0 : Tryd.prog.cellsOf 36 = 1 := by kernel_rfl
theorem tableIs0 {W : World} (h : laidMetH Tryd.prog Rows.orientAlternatesRow.laid W) : Lib.TabIs Tryd.prog W "geofence/mask.words" .u64 [9223372036854775808, 18446744073709551615] :=
  Lib.tabIs_of_head (rest := _) gTab0 gTabType0 Tryd.underlying69 Tryd.underlying36 cellsE0 cellsT0 h
theorem table0 {W : World} (h : laidMetH Tryd.prog Rows.orientAlternatesRow.laid W) : TabM W := ⟨(tableIs0 h).cell gTab0 0 (by decide), (tableIs0 h).cell gTab0 1 (by decide)⟩

theorem gTab1 : Tryd.prog.globalNamed "geofence/orient.wanted" = some 0 := by kernel_rfl
theorem gTabType1 : (Tryd.prog.globals[0]?).map (·.type) = some 69 := by kernel_rfl
theorem cellsT1 : Tryd.prog.cellsOf 69 = 2 := by kernel_rfl
theorem cellsE1 : Tryd.prog.cellsOf 36 = 1 := by kernel_rfl
theorem tableIs1 {W : World} (h : laidMetH Tryd.prog Rows.orientAlternatesRow.laid W) : Lib.TabIs Tryd.prog W "geofence/orient.wanted" .u64 [0, 1] :=
  Lib.tabIs_of_head (rest := _) gTab1 gTabType1 Tryd.underlying69 Tryd.underlying36 cellsE1 cellsT1 (laid_tail h)
theorem table1 {W : World} (h : laidMetH Tryd.prog Rows.orientAlternatesRow.laid W) : TabO W := ⟨(tableIs1 h).cell gTab1 0 (by decide), (tableIs1 h).cell gTab1 1 (by decide)⟩

theorem contract (H : Type) (enc : TypeId × Value → H) (W : World) (base : Nat) (args : Array Value) (ds gs : List (DataW H)) (before : List MemPlace)
    (hval : ∀ (j : Nat) t v, Tryd.f5.params[j]? = some t → args[j]? = some v → Value.okWide Tryd.prog W .any base t v)
    (hW : DataW.Whole enc Tryd.prog Tryd.f5.params.toList Rows.orientAlternatesSpec.vars false W args.toList ds gs before) (hL : laidMetH Tryd.prog Rows.orientAlternatesRow.laid W) :
    Calls Tryd.prog 5 args W fun e W' => ∃ v, e = .returned v ∧ Rows.orientAlternatesSpec.post enc Tryd.prog Tryd.f5 false true false false W args v W' := by
  have hW' := hW
  obtain ⟨p, q, hA0, hV, rfl, hfz, hnd⟩ := hW
  have hA : DataW.TrodAll enc Tryd.prog W 0 (fun _ => true) true Tryd.f5.params.toList args.toList ds p := hA0
  rw [Tryd.params5] at hA hval
  obtain ⟨v0, vs0, d0, ds0, p0, q0, hargs, rfl, rfl, h0, r0⟩ := trodAll_cons hA
  obtain ⟨v1, vs1, d1, ds1, p1, q1, rfl, rfl, rfl, h1, r1⟩ := trodAll_cons r0
  obtain ⟨v2, vs2, d2, ds2, p2, q2, rfl, rfl, rfl, h2, r2⟩ := trodAll_cons r1
  obtain ⟨rfl, rfl, rfl⟩ := trodAll_nil r2
  obtain rfl : args = #[v0, v1, v2] := by cases args; simp_all
  obtain ⟨rfl, rfl⟩ := trodVars_none hV
  have k0 := h0
  have lt0 : ∀ x ∈ p0, x.block < W.heap.size := by obtain ⟨m, hm⟩ := k0; exact DataW.trod_lt m _ _ _ hm
  have k1 := h1
  have lt1 : ∀ x ∈ p1, x.block < W.heap.size := by obtain ⟨m, hm⟩ := k1; exact DataW.trod_lt m _ _ _ hm
  have k2 := h2
  have lt2 : ∀ x ∈ p2, x.block < W.heap.size := by obtain ⟨m, hm⟩ := k2; exact DataW.trod_lt m _ _ _ hm
  obtain ⟨a0, b0, rfl, w0, x0⟩ := Op.open_pt Tryd.underlying23 rfl rfl rfl rfl Tryd.underlying2 (by kernel_rfl) (by kernel_rfl) h0
  obtain ⟨a1, b1, rfl, w1, x1⟩ := Op.open_pt Tryd.underlying23 rfl rfl rfl rfl Tryd.underlying2 (by kernel_rfl) (by kernel_rfl) h1
  obtain ⟨a2, b2, rfl, w2, x2⟩ := Op.open_pt Tryd.underlying23 rfl rfl rfl rfl Tryd.underlying2 (by kernel_rfl) (by kernel_rfl) h2
  clear hA0
  refine (walk a0 b0 w0 x0 a1 b1 w1 x1 a2 b2 w2 x2 (table0 hL) (table1 hL)).mono fun e W' ⟨he, bel⟩ => ?_
  subst he
  exact ⟨_, rfl, _, _, _, [], _, [], hW', trodAll_mk1 (shut_bool Tryd.underlying4 _), (trodAll_cons_mk (Below.trod laidOut (by kernel_rfl) (of_decide_eq_true (by kernel_rfl)) k0 bel lt0) (trodAll_cons_mk (Below.trod laidOut (by kernel_rfl) (of_decide_eq_true (by kernel_rfl)) k1 bel lt1) (trodAll_cons_mk (Below.trod laidOut (by kernel_rfl) (of_decide_eq_true (by kernel_rfl)) k2 bel lt2) trodAll_mk0))), rfl, bel.frame _, fun h => by cases h⟩

noncomputable def laidHeap (os : Os) : Array Obj :=
  ((World.holding Tryd.prog os ⟨#[], #[], []⟩).heap.modify 1 (fun
      | .cells _ t frozen => .cells #[.int .u64 9223372036854775808, .int .u64 18446744073709551615] t frozen
      | o => o)).modify 0 (fun
      | .cells _ t frozen => .cells #[.int .u64 0, .int .u64 1] t frozen
      | o => o)
noncomputable def laidWorld (os : Os) : World :=
  { World.holding Tryd.prog os ⟨#[], #[], []⟩ with heap := laidHeap os }
theorem laid_met (os : Os) : laidMet Tryd.prog Rows.orientAlternatesRow.laid ((laidWorld os).forCall (fun _ _ => 0) ⟨#[], #[.agg #[.int .i64 0, .int .i64 0], .agg #[.int .i64 0, .int .i64 0], .agg #[.int .i64 0, .int .i64 0]], []⟩).memory :=
  laidMet_of_run' 8 (by kernel_rfl) (by kernel_rfl)
theorem reads (os : Os) {H : Type} (enc : TypeId × Value → H) : ∃ places, DataW.whole enc Tryd.prog ((laidWorld os).forCall (fun _ _ => 0) ⟨#[], #[.agg #[.int .i64 0, .int .i64 0], .agg #[.int .i64 0, .int .i64 0], .agg #[.int .i64 0, .int .i64 0]], []⟩).memory Tryd.f5.params.toList Rows.orientAlternatesSpec.vars false (#[.agg #[.int .i64 0, .int .i64 0], .agg #[.int .i64 0, .int .i64 0], .agg #[.int .i64 0, .int .i64 0]] : Array Value).toList 8 = some ([.agg [.lit (.int .i64 0), .lit (.int .i64 0)], .agg [.lit (.int .i64 0), .lit (.int .i64 0)], .agg [.lit (.int .i64 0), .lit (.int .i64 0)]], [], places) :=
  ⟨[], by kernel_rfl⟩

set_option maxRecDepth 100000 in
theorem lifted (os : Os) (started : os.Started) (H : Type) (enc : TypeId × Value → H) (F : Stop.Interp) :
    ReturnsInHanded {} Tryd.checked os 5 .any ((OpenSpec.ofChange Rows.orientAlternatesSpec).preRow enc Tryd.prog Tryd.f5 Rows.orientAlternatesRow.domain false Rows.orientAlternatesRow.laid) (((OpenSpec.ofChange Rows.orientAlternatesSpec).at F).post enc Tryd.prog Tryd.f5 false true false false) := by
  obtain ⟨places, hx⟩ := reads os enc
  refine returnsInHanded_of_row (C := Tryd.checked) (s := OpenSpec.ofChange Rows.orientAlternatesSpec) own started (by kernel_rfl) Tryd.func5
    (witness_row_at (enc := enc) (C := Tryd.checked) false (laidWorld os) #[.agg #[.int .i64 0, .int .i64 0], .agg #[.int .i64 0, .int .i64 0], .agg #[.int .i64 0, .int .i64 0]] rfl (by kernel_rfl) (by kernel_rfl) (by kernel_rfl)
      (OpenSpec.preRow_of_cond 8 hx (by kernel_rfl) (fun k hk => by cases hk) (by kernel_rfl) (laid_met os))) ?_
  intro W base args ds gs before hval hW _ _ _ hL _ _
  exact contract H enc W base args ds gs before hval hW hL

theorem said : Rows.OrientAlternatesSaid :=
  OpenClaim.holds_of_cond 5 Tryd.f5 rfl rfl rfl rfl rfl rfl rfl ⟨rfl, rfl, rfl, rfl, rfl⟩ rfl rfl rfl rfl rfl (by kernel_rfl) Tryd.func5 (by kernel_rfl)
    (of_decide_eq_true (by kernel_rfl)) (by unfold Func.isWrapper; first | (rw [if_pos (by decide +kernel)]; kernel_rfl) | (rw [if_neg (by decide +kernel)]; exact ⟨rfl, rfl⟩))
    (fun os started H enc _ F => by rw [OpenClaim.pre_eq_preRow]; exact lifted os started H enc F)

theorem plain (f : FuncId) (fn : Func) (hf : Tryd.pinned.checked.prog.funcNamed "geofence/geofencelaw06.OrientAlternates" = some f) (hfn : Tryd.pinned.checked.prog.funcs[f]? = some fn) :
    false = Tryd.pinned.checked.prog.looks [] ∧ ∀ (j : Nat) t, fn.params[j]? = some t → Tryd.pinned.checked.prog.wantsStandIn t = false := by
  obtain rfl : f = 5 := Option.some.inj ((show Tryd.prog.funcNamed "geofence/geofencelaw06.OrientAlternates" = some 5 by kernel_rfl).symm.trans hf) |>.symm
  obtain rfl : fn = Tryd.f5 := (Option.some.inj (Tryd.func5.symm.trans hfn)).symm
  refine ⟨by kernel_rfl, fun j t ht => ?_⟩
  rw [Tryd.params5] at ht
  have hm := Array.mem_of_getElem? ht
  simp at hm
  obtain rfl := hm
  exact (show Tryd.prog.wantsStandIn 23 = false by kernel_rfl)

/-- THE CARD -/
theorem card : Rows.OrientAlternatesCardSaid :=
  Claim7.holds_tied_plain_at .later [] _ _ _ _ said (fun _ h => by cases h) (by kernel_rfl) (fun _ h => by cases h) orientAlternates_row_tie rfl ⟨rfl, rfl⟩ (by kernel_rfl) rfl plain (by kernel_rfl)
#print axioms card
end Go.Proofs.YtfjanlfbnliokaaDoor.orientAlternates
