/- OrientAddsUp: for every input the law returns true, and each argument reads afterwards as it read before; the package variable that the row lists holds what it lists. -/
import Derived.Test.YtfjanlfbnliokaaDoorCards
import Derived.Test.YtfjanlfbnliokaaDoorTie
import Derived.Test.YtfjanlfbnliokaaDoorLaw6b
import Derived.Test.YtfjanlfbnliokaaDoorOpenPt
import Derived.WalkKit
import Derived.ProofKit
import Derived.OpenShut
import Derived.Below
import Derived.Deep.DeepHandedRow
import Derived.Lib.LaidTab
import Derived.Test.YtfjanlfbnliokaaDoorTab
namespace Go.Proofs.YtfjanlfbnliokaaDoor.orientAddsUp
open Go.ChangeShapes Go.WideShapes Go.ChangeAt Go.RowKit Wd
set_option linter.unusedVariables false
set_option linter.unusedSimpArgs false

theorem own : ownKnob Tryd.prog.godebug = none := by kernel_rfl
theorem laidOut : laidOutB Tryd.prog = true := by kernel_rfl

set_option maxHeartbeats 4000000 in
theorem walk {w : World} (a0_0 a0_1 a0_2 a0_3 a0_4 a0_5 : Int) (w0_0 : (Lit.int .i64 a0_0).wf = true) (w0_1 : (Lit.int .i64 a0_1).wf = true) (w0_2 : (Lit.int .i64 a0_2).wf = true) (w0_3 : (Lit.int .i64 a0_3).wf = true) (w0_4 : (Lit.int .i64 a0_4).wf = true) (w0_5 : (Lit.int .i64 a0_5).wf = true) (a1 b1 : Int) (w1 : (Lit.int .i64 a1).wf = true) (x1 : (Lit.int .i64 b1).wf = true) (hT : TabM w) (hW : TabO w) :
    Calls Tryd.prog 7 #[.agg #[.int .i64 a0_0, .int .i64 a0_1, .int .i64 a0_2, .int .i64 a0_3, .int .i64 a0_4, .int .i64 a0_5], .agg #[.int .i64 a1, .int .i64 b1]] w fun e w' => e = .returned (.bool true) ∧ Below w.heap.size w w' := by
  have HB0 := Lib.hid (Below.refl w.heap.size w)
  have i0_0 := isI_of_wf w0_0
  have i0_1 := isI_of_wf w0_1
  have i0_2 := isI_of_wf w0_2
  have i0_3 := isI_of_wf w0_3
  have i0_4 := isI_of_wf w0_4
  have i0_5 := isI_of_wf w0_5
  have ia1 := isI_of_wf w1
  have ib1 := isI_of_wf x1
  have FT := Lib.hid hT; clear hT
  have FW := Lib.hid hW; clear hW
  have hfd : ∀ (s : Int) (V : Option Addr) (k c : Nat) (w : World), (Instr.field 26 (.agg #[.int .i64 s, .slice V k c]) 0).run Tryd.prog w = .ok (.int .i64 s) w := fun _ _ _ _ _ => by kernel_rfl
  have q1 := (show P3 a0_0 a0_1 a0_2 a0_3 a1 b1 from ⟨i0_0, i0_1, i0_2, i0_3, ia1, ib1⟩)
  have q2 := (show P3 a0_2 a0_3 a0_4 a0_5 a1 b1 from ⟨i0_2, i0_3, i0_4, i0_5, ia1, ib1⟩)
  have q3 := (show P3 a0_4 a0_5 a0_0 a0_1 a1 b1 from ⟨i0_4, i0_5, i0_0, i0_1, ia1, ib1⟩)
  have q4 := (show P3 a0_0 a0_1 a0_2 a0_3 a0_4 a0_5 from ⟨i0_0, i0_1, i0_2, i0_3, i0_4, i0_5⟩)
  have es := Lib.hid (show det a0_0 a0_1 a0_2 a0_3 a1 b1 + det a0_2 a0_3 a0_4 a0_5 a1 b1 + det a0_4 a0_5 a0_0 a0_1 a1 b1 = det a0_0 a0_1 a0_2 a0_3 a0_4 a0_5 from det_sum _ _ _ _ _ _ _ _)
  go_enter Tryd.func7, Tryd.ntmps7
  go_wp2_with fail
  have B : Below w.heap.size w ((w.alloc (.cells #[.int .i64 a0_0, .int .i64 a0_1, .int .i64 a0_2, .int .i64 a0_3, .int .i64 a0_4, .int .i64 a0_5] 41)).alloc (.cells #[.int .i64 a1, .int .i64 b1] 23)) := ((HB0.out.alloc HB0.out.size _).alloc (HB0.out.alloc HB0.out.size _).size _)
  have C : Below w.heap.size w ((w.alloc (.cells #[.int .i64 a0_0, .int .i64 a0_1, .int .i64 a0_2, .int .i64 a0_3, .int .i64 a0_4, .int .i64 a0_5] 41)).alloc (.cells #[.int .i64 a1, .int .i64 b1] 23)) := (((Below.refl w.heap.size w).alloc (Nat.le_refl _) _).alloc (by simp; try omega) _)
  have X0 : Bx ((w.alloc (.cells #[.int .i64 a0_0, .int .i64 a0_1, .int .i64 a0_2, .int .i64 a0_3, .int .i64 a0_4, .int .i64 a0_5] 41)).alloc (.cells #[.int .i64 a1, .int .i64 b1] 23)) (w.heap.size) #[.int .i64 a0_0, .int .i64 a0_1, .int .i64 a0_2, .int .i64 a0_3, .int .i64 a0_4, .int .i64 a0_5] 41 := by simpa using ((Bx.new w #[.int .i64 a0_0, .int .i64 a0_1, .int .i64 a0_2, .int .i64 a0_3, .int .i64 a0_4, .int .i64 a0_5] 41).alloc _)
  have X1 : Bx ((w.alloc (.cells #[.int .i64 a0_0, .int .i64 a0_1, .int .i64 a0_2, .int .i64 a0_3, .int .i64 a0_4, .int .i64 a0_5] 41)).alloc (.cells #[.int .i64 a1, .int .i64 b1] 23)) (w.heap.size + 1) #[.int .i64 a1, .int .i64 b1] 23 := by simpa using (Bx.new (w.alloc (.cells #[.int .i64 a0_0, .int .i64 a0_1, .int .i64 a0_2, .int .i64 a0_3, .int .i64 a0_4, .int .i64 a0_5] 41)) #[.int .i64 a1, .int .i64 b1] 23)
  have FT_1 := Lib.hid (FT.out.below C (Nat.le_refl _))
  have FW_1 := Lib.hid (FW.out.below C (Nat.le_refl _))
  have HB1 := Lib.hid B
  have FA_1 := Lib.hid X0
  have FQ_1 := Lib.hid X1
  clear B C X0 X1 HB0 FT FW
  generalize ((w.alloc (.cells #[.int .i64 a0_0, .int .i64 a0_1, .int .i64 a0_2, .int .i64 a0_3, .int .i64 a0_4, .int .i64 a0_5] 41)).alloc (.cells #[.int .i64 a1, .int .i64 b1] 23)) = w1 at *
  go_upto_region 1 with (fail)
  have M0 := trivial
  have QF := Lib.hid (show ∀ w', Below w1.heap.size w1 w' → w'.cell? ⟨w.heap.size, 0, none⟩ = some (.int .i64 a0_0) ∧ w'.cell? ⟨w.heap.size, 1, none⟩ = some (.int .i64 a0_1) ∧ w'.cell? ⟨w.heap.size, 2, none⟩ = some (.int .i64 a0_2) ∧ w'.cell? ⟨w.heap.size, 3, none⟩ = some (.int .i64 a0_3) ∧ w'.cell? ⟨w.heap.size, 4, none⟩ = some (.int .i64 a0_4) ∧ w'.cell? ⟨w.heap.size, 5, none⟩ = some (.int .i64 a0_5) from fun w' hb => ⟨(FA_1.out.below hb (Nat.le_refl _)).cell 0 (v := .int .i64 a0_0) rfl, (FA_1.out.below hb (Nat.le_refl _)).cell 1 (v := .int .i64 a0_1) rfl, (FA_1.out.below hb (Nat.le_refl _)).cell 2 (v := .int .i64 a0_2) rfl, (FA_1.out.below hb (Nat.le_refl _)).cell 3 (v := .int .i64 a0_3) rfl, (FA_1.out.below hb (Nat.le_refl _)).cell 4 (v := .int .i64 a0_4) rfl, (FA_1.out.below hb (Nat.le_refl _)).cell 5 (v := .int .i64 a0_5) rfl⟩)
  go_cut [5, 6, 7] (fun s5 s6 s7 wx => Cut3P w1 a0_0 a0_1 a0_2 a0_3 a0_4 a0_5 s5 s6 s7 wx)
  case first =>
    go_region_held3 (fun w' => w'.cell? ⟨w.heap.size, 0, none⟩ = some (.int .i64 a0_0) ∧ w'.cell? ⟨w.heap.size, 1, none⟩ = some (.int .i64 a0_1) ∧ w'.cell? ⟨w.heap.size, 2, none⟩ = some (.int .i64 a0_2) ∧ w'.cell? ⟨w.heap.size, 3, none⟩ = some (.int .i64 a0_3) ∧ w'.cell? ⟨w.heap.size, 4, none⟩ = some (.int .i64 a0_4) ∧ w'.cell? ⟨w.heap.size, 5, none⟩ = some (.int .i64 a0_5)) (first | (with_reducible refine QF.out _ ?_; (repeat (first | with_reducible exact below_rf | with_reducible refine below_dr ?_ | with_reducible refine below_al ?_ | (with_reducible refine below_st ?_ ?_; (focus (first | with_reducible assumption | with_reducible exact Nat.le_refl _ | (simp; done) | omega | (simp <;> omega)))))); done)) (first
          | fail)
    all_goals (go_wp2_with fail; go_meet; exact ⟨_, _, _, rfl, rfl, rfl, by (repeat (first | (with_reducible refine bx_set2 (z0 := .int .i64 0) (z1 := .int .i64 0) ?_) | (with_reducible refine bx_new ?_; (focus (first | with_reducible rfl | (simp; done)))) | with_reducible refine bx_al ?_ | (with_reducible refine bx_ot ?_ ?_; (focus (first | (simp; done) | omega | (simp <;> omega)))) | with_reducible refine bx_dr ?_)), by (repeat (first | (with_reducible refine bx_set2 (z0 := .int .i64 0) (z1 := .int .i64 0) ?_) | (with_reducible refine bx_new ?_; (focus (first | with_reducible rfl | (simp; done)))) | with_reducible refine bx_al ?_ | (with_reducible refine bx_ot ?_ ?_; (focus (first | (simp; done) | omega | (simp <;> omega)))) | with_reducible refine bx_dr ?_)), by (repeat (first | (with_reducible refine bx_set2 (z0 := .int .i64 0) (z1 := .int .i64 0) ?_) | (with_reducible refine bx_new ?_; (focus (first | with_reducible rfl | (simp; done)))) | with_reducible refine bx_al ?_ | (with_reducible refine bx_ot ?_ ?_; (focus (first | (simp; done) | omega | (simp <;> omega)))) | with_reducible refine bx_dr ?_)), by (repeat (first | with_reducible exact below_rf | with_reducible refine below_dr ?_ | with_reducible refine below_al ?_ | (with_reducible refine below_st ?_ ?_; (focus (first | with_reducible assumption | with_reducible exact Nat.le_refl _ | (simp; done) | omega | (simp <;> omega))))))⟩)
  case rest =>
    clear QF M0
    obtain ⟨b5, b6, b7, rfl, rfl, rfl, H5, H6, H7, HCB⟩ := hcut
    have FT_2 := Lib.hid (FT_1.out.below HCB (Nat.le_refl _)); clear FT_1
    have FW_2 := Lib.hid (FW_1.out.below HCB (Nat.le_refl _)); clear FW_1
    have FA_2 := Lib.hid (FA_1.out.below HCB (Nat.le_refl _)); clear FA_1
    have FQ_2 := Lib.hid (FQ_1.out.below HCB (Nat.le_refl _)); clear FQ_1
    have HB2 := Lib.hid (HB1.out.trans (HCB.mono HB1.out.size)); clear HCB HB1
    have FX5 := Lib.hid H5; clear H5
    have FX6 := Lib.hid H6; clear H6
    have FX7 := Lib.hid H7; clear H7
    go_wp2_with fail
    have RB2 := Lib.hid (below_drew0 wc)
    have QS2 := Lib.hid (show wc.cell? ⟨b5, 0, none⟩ = some (.int .i64 a0_0) ∧ wc.cell? ⟨b5, 1, none⟩ = some (.int .i64 a0_1) ∧ wc.cell? ⟨b6, 0, none⟩ = some (.int .i64 a0_2) ∧ wc.cell? ⟨b6, 1, none⟩ = some (.int .i64 a0_3) ∧ wc.cell? ⟨b7, 0, none⟩ = some (.int .i64 a0_4) ∧ wc.cell? ⟨b7, 1, none⟩ = some (.int .i64 a0_5) ∧ wc.cell? ⟨w.heap.size + 1, 0, none⟩ = some (.int .i64 a1) ∧ wc.cell? ⟨w.heap.size + 1, 1, none⟩ = some (.int .i64 b1) from ⟨FX5.out.cell 0 (v := .int .i64 a0_0) rfl, FX5.out.cell 1 (v := .int .i64 a0_1) rfl, FX6.out.cell 0 (v := .int .i64 a0_2) rfl, FX6.out.cell 1 (v := .int .i64 a0_3) rfl, FX7.out.cell 0 (v := .int .i64 a0_4) rfl, FX7.out.cell 1 (v := .int .i64 a0_5) rfl, FQ_2.out.cell 0 (v := .int .i64 a1) rfl, FQ_2.out.cell 1 (v := .int .i64 b1) rfl⟩)
    have QF2 := Lib.hid (show ∀ w', Below wc.heap.size wc w' → w'.cell? ⟨b5, 0, none⟩ = some (.int .i64 a0_0) ∧ w'.cell? ⟨b5, 1, none⟩ = some (.int .i64 a0_1) ∧ w'.cell? ⟨b6, 0, none⟩ = some (.int .i64 a0_2) ∧ w'.cell? ⟨b6, 1, none⟩ = some (.int .i64 a0_3) ∧ w'.cell? ⟨b7, 0, none⟩ = some (.int .i64 a0_4) ∧ w'.cell? ⟨b7, 1, none⟩ = some (.int .i64 a0_5) ∧ w'.cell? ⟨w.heap.size + 1, 0, none⟩ = some (.int .i64 a1) ∧ w'.cell? ⟨w.heap.size + 1, 1, none⟩ = some (.int .i64 b1) from fun w' hb => ⟨(FX5.out.below hb (Nat.le_refl _)).cell 0 (v := .int .i64 a0_0) rfl, (FX5.out.below hb (Nat.le_refl _)).cell 1 (v := .int .i64 a0_1) rfl, (FX6.out.below hb (Nat.le_refl _)).cell 0 (v := .int .i64 a0_2) rfl, (FX6.out.below hb (Nat.le_refl _)).cell 1 (v := .int .i64 a0_3) rfl, (FX7.out.below hb (Nat.le_refl _)).cell 0 (v := .int .i64 a0_4) rfl, (FX7.out.below hb (Nat.le_refl _)).cell 1 (v := .int .i64 a0_5) rfl, (FQ_2.out.below hb (Nat.le_refl _)).cell 0 (v := .int .i64 a1) rfl, (FQ_2.out.below hb (Nat.le_refl _)).cell 1 (v := .int .i64 b1) rfl⟩)
    go_region_held3 (fun w' => w'.cell? ⟨b5, 0, none⟩ = some (.int .i64 a0_0) ∧ w'.cell? ⟨b5, 1, none⟩ = some (.int .i64 a0_1) ∧ w'.cell? ⟨b6, 0, none⟩ = some (.int .i64 a0_2) ∧ w'.cell? ⟨b6, 1, none⟩ = some (.int .i64 a0_3) ∧ w'.cell? ⟨b7, 0, none⟩ = some (.int .i64 a0_4) ∧ w'.cell? ⟨b7, 1, none⟩ = some (.int .i64 a0_5) ∧ w'.cell? ⟨w.heap.size + 1, 0, none⟩ = some (.int .i64 a1) ∧ w'.cell? ⟨w.heap.size + 1, 1, none⟩ = some (.int .i64 b1)) (first | with_reducible exact QF2.out _ RB6.out | with_reducible exact QF2.out _ RB5.out | with_reducible exact QF2.out _ RB4.out | with_reducible exact QF2.out _ RB3.out | with_reducible exact QS2.out | with_reducible exact QF2.out _ RB2.out) (first
          | (go_at_call 18; have := RB5; clear this; refine (orient_Value a0_0 a0_1 a0_2 a0_3 a0_4 a0_5 (show P3 a0_0 a0_1 a0_2 a0_3 a0_4 a0_5 from ⟨i0_0, i0_1, i0_2, i0_3, i0_4, i0_5⟩) _).mono ?_; rintro e w6 ⟨⟨U4, u4, rfl, S4⟩, B⟩; have RB6 := Lib.hid (RB5.out.trans (B.mono RB5.out.size)); have RV1_6 := Lib.hid (RV1_5.out.below B (Nat.le_refl _)); have RV2_6 := Lib.hid (RV2_5.out.below B (Nat.le_refl _)); have RV3_6 := Lib.hid (RV3_5.out.below B (Nat.le_refl _)); have RV4_6 := Lib.hid S4; clear B S4)
          | (go_at_call 18; have := RB4; clear this; refine (orient_Value a0_4 a0_5 a0_0 a0_1 a1 b1 (show P3 a0_4 a0_5 a0_0 a0_1 a1 b1 from ⟨i0_4, i0_5, i0_0, i0_1, ia1, ib1⟩) _).mono ?_; rintro e w5 ⟨⟨U3, u3, rfl, S3⟩, B⟩; have RB5 := Lib.hid (RB4.out.trans (B.mono RB4.out.size)); have RV1_5 := Lib.hid (RV1_4.out.below B (Nat.le_refl _)); have RV2_5 := Lib.hid (RV2_4.out.below B (Nat.le_refl _)); have RV3_5 := Lib.hid S3; clear B S3)
          | (go_at_call 18; have := RB3; clear this; refine (orient_Value a0_2 a0_3 a0_4 a0_5 a1 b1 (show P3 a0_2 a0_3 a0_4 a0_5 a1 b1 from ⟨i0_2, i0_3, i0_4, i0_5, ia1, ib1⟩) _).mono ?_; rintro e w4 ⟨⟨U2, u2, rfl, S2⟩, B⟩; have RB4 := Lib.hid (RB3.out.trans (B.mono RB3.out.size)); have RV1_4 := Lib.hid (RV1_3.out.below B (Nat.le_refl _)); have RV2_4 := Lib.hid S2; clear B S2)
          | (go_at_call 18; have := RB2; clear this; refine (orient_Value a0_0 a0_1 a0_2 a0_3 a1 b1 (show P3 a0_0 a0_1 a0_2 a0_3 a1 b1 from ⟨i0_0, i0_1, i0_2, i0_3, ia1, ib1⟩) _).mono ?_; rintro e w3 ⟨⟨U1, u1, rfl, S1⟩, B⟩; have RB3 := Lib.hid (RB2.out.trans (B.mono RB2.out.size)); have RV1_3 := Lib.hid S1; clear B S1))
    have FT_6 := Lib.hid (FT_2.out.below RB6.out (Nat.le_refl _))
    have FW_6 := Lib.hid (FW_2.out.below RB6.out (Nat.le_refl _))
    have FA_6 := Lib.hid (FA_2.out.below RB6.out (Nat.le_refl _))
    have FQ_6 := Lib.hid (FQ_2.out.below RB6.out (Nat.le_refl _))
    have FX5_6 := Lib.hid (FX5.out.below RB6.out (Nat.le_refl _))
    have FX6_6 := Lib.hid (FX6.out.below RB6.out (Nat.le_refl _))
    have FX7_6 := Lib.hid (FX7.out.below RB6.out (Nat.le_refl _))
    have HB6 := Lib.hid (HB2.out.trans (RB6.out.mono HB2.out.size))
    clear HB2 FT_2 FW_2 FA_2 FQ_2 FX5 FX6 FX7
    go_wp2_with fail
    refine (ref3_Value _ _ _ _ _ RV1_6.out q1.fit (by omega)).mono ?_
    rintro e w7 ⟨⟨Gx, gx, dx, rfl, bx_, Nx⟩, B⟩
    have HB7 := Lib.hid (HB6.out.trans (B.mono HB6.out.size))
    have FT_7 := Lib.hid (FT_6.out.below B (Nat.le_refl _))
    have FW_7 := Lib.hid (FW_6.out.below B (Nat.le_refl _))
    have FA_7 := Lib.hid (FA_6.out.below B (Nat.le_refl _))
    have FQ_7 := Lib.hid (FQ_6.out.below B (Nat.le_refl _))
    have FX5_7 := Lib.hid (FX5_6.out.below B (Nat.le_refl _))
    have FX6_7 := Lib.hid (FX6_6.out.below B (Nat.le_refl _))
    have FX7_7 := Lib.hid (FX7_6.out.below B (Nat.le_refl _))
    have FV1_7 := Lib.hid (RV1_6.out.below B (Nat.le_refl _))
    have FV2_7 := Lib.hid (RV2_6.out.below B (Nat.le_refl _))
    have FV3_7 := Lib.hid (RV3_6.out.below B (Nat.le_refl _))
    have FV4_7 := Lib.hid (RV4_6.out.below B (Nat.le_refl _))
    have FNx_7 := Lib.hid Nx
    clear B Nx HB6 FT_6 FW_6 FA_6 FQ_6 FX5_6 FX6_6 FX7_6 RV1_6 RV2_6 RV3_6 RV4_6
    go_wp2_with fail
    refine (ref3_Value _ _ _ _ _ FV2_7.out q2.fit (by omega)).mono ?_
    rintro e w8 ⟨⟨Gy, gy, dy, rfl, by_, Ny⟩, B⟩
    have HB8 := Lib.hid (HB7.out.trans (B.mono HB7.out.size))
    have FT_8 := Lib.hid (FT_7.out.below B (Nat.le_refl _))
    have FW_8 := Lib.hid (FW_7.out.below B (Nat.le_refl _))
    have FA_8 := Lib.hid (FA_7.out.below B (Nat.le_refl _))
    have FQ_8 := Lib.hid (FQ_7.out.below B (Nat.le_refl _))
    have FX5_8 := Lib.hid (FX5_7.out.below B (Nat.le_refl _))
    have FX6_8 := Lib.hid (FX6_7.out.below B (Nat.le_refl _))
    have FX7_8 := Lib.hid (FX7_7.out.below B (Nat.le_refl _))
    have FV1_8 := Lib.hid (FV1_7.out.below B (Nat.le_refl _))
    have FV2_8 := Lib.hid (FV2_7.out.below B (Nat.le_refl _))
    have FV3_8 := Lib.hid (FV3_7.out.below B (Nat.le_refl _))
    have FV4_8 := Lib.hid (FV4_7.out.below B (Nat.le_refl _))
    have FNx_8 := Lib.hid (FNx_7.out.below B (Nat.le_refl _))
    have FNy_8 := Lib.hid Ny
    clear B Ny HB7 FT_7 FW_7 FA_7 FQ_7 FX5_7 FX6_7 FX7_7 FV1_7 FV2_7 FV3_7 FV4_7 FNx_7
    go_wp2_with fail
    refine (ref3_Add _ _ _ _ _ _ _ _ _ FNx_8.out FNy_8.out (by omega) (by omega)).mono ?_
    rintro e w9 ⟨⟨Gs, gs, ds, rfl, bs_, Ns⟩, B⟩
    have HB9 := Lib.hid (HB8.out.trans (B.mono HB8.out.size))
    have FT_9 := Lib.hid (FT_8.out.below B (Nat.le_refl _))
    have FW_9 := Lib.hid (FW_8.out.below B (Nat.le_refl _))
    have FA_9 := Lib.hid (FA_8.out.below B (Nat.le_refl _))
    have FQ_9 := Lib.hid (FQ_8.out.below B (Nat.le_refl _))
    have FX5_9 := Lib.hid (FX5_8.out.below B (Nat.le_refl _))
    have FX6_9 := Lib.hid (FX6_8.out.below B (Nat.le_refl _))
    have FX7_9 := Lib.hid (FX7_8.out.below B (Nat.le_refl _))
    have FV1_9 := Lib.hid (FV1_8.out.below B (Nat.le_refl _))
    have FV2_9 := Lib.hid (FV2_8.out.below B (Nat.le_refl _))
    have FV3_9 := Lib.hid (FV3_8.out.below B (Nat.le_refl _))
    have FV4_9 := Lib.hid (FV4_8.out.below B (Nat.le_refl _))
    have FNx_9 := Lib.hid (FNx_8.out.below B (Nat.le_refl _))
    have FNy_9 := Lib.hid (FNy_8.out.below B (Nat.le_refl _))
    have FNs_9 := Lib.hid Ns
    clear B Ns HB8 FT_8 FW_8 FA_8 FQ_8 FX5_8 FX6_8 FX7_8 FV1_8 FV2_8 FV3_8 FV4_8 FNx_8 FNy_8
    go_wp2_with fail
    refine (ref3_Value _ _ _ _ _ FV3_9.out q3.fit (by omega)).mono ?_
    rintro e w10 ⟨⟨Gz, gz, dz, rfl, bz_, Nz⟩, B⟩
    have HB10 := Lib.hid (HB9.out.trans (B.mono HB9.out.size))
    have FT_10 := Lib.hid (FT_9.out.below B (Nat.le_refl _))
    have FW_10 := Lib.hid (FW_9.out.below B (Nat.le_refl _))
    have FA_10 := Lib.hid (FA_9.out.below B (Nat.le_refl _))
    have FQ_10 := Lib.hid (FQ_9.out.below B (Nat.le_refl _))
    have FX5_10 := Lib.hid (FX5_9.out.below B (Nat.le_refl _))
    have FX6_10 := Lib.hid (FX6_9.out.below B (Nat.le_refl _))
    have FX7_10 := Lib.hid (FX7_9.out.below B (Nat.le_refl _))
    have FV1_10 := Lib.hid (FV1_9.out.below B (Nat.le_refl _))
    have FV2_10 := Lib.hid (FV2_9.out.below B (Nat.le_refl _))
    have FV3_10 := Lib.hid (FV3_9.out.below B (Nat.le_refl _))
    have FV4_10 := Lib.hid (FV4_9.out.below B (Nat.le_refl _))
    have FNs_10 := Lib.hid (FNs_9.out.below B (Nat.le_refl _))
    have FNz_10 := Lib.hid Nz
    clear B Nz HB9 FT_9 FW_9 FA_9 FQ_9 FX5_9 FX6_9 FX7_9 FV1_9 FV2_9 FV3_9 FV4_9 FNs_9
    go_wp2_with fail
    refine (ref3_AddZ _ _ _ _ _ _ _ _ _ es.out _ FNs_10.out FNz_10.out (by omega) (by omega)).mono ?_
    rintro e w11 ⟨⟨Gt, gt, dt, rfl, bt_, Nt⟩, B⟩
    have HB11 := Lib.hid (HB10.out.trans (B.mono HB10.out.size))
    have FT_11 := Lib.hid (FT_10.out.below B (Nat.le_refl _))
    have FW_11 := Lib.hid (FW_10.out.below B (Nat.le_refl _))
    have FA_11 := Lib.hid (FA_10.out.below B (Nat.le_refl _))
    have FQ_11 := Lib.hid (FQ_10.out.below B (Nat.le_refl _))
    have FX5_11 := Lib.hid (FX5_10.out.below B (Nat.le_refl _))
    have FX6_11 := Lib.hid (FX6_10.out.below B (Nat.le_refl _))
    have FX7_11 := Lib.hid (FX7_10.out.below B (Nat.le_refl _))
    have FV1_11 := Lib.hid (FV1_10.out.below B (Nat.le_refl _))
    have FV2_11 := Lib.hid (FV2_10.out.below B (Nat.le_refl _))
    have FV3_11 := Lib.hid (FV3_10.out.below B (Nat.le_refl _))
    have FV4_11 := Lib.hid (FV4_10.out.below B (Nat.le_refl _))
    have FNs_11 := Lib.hid (FNs_10.out.below B (Nat.le_refl _))
    have FNz_11 := Lib.hid (FNz_10.out.below B (Nat.le_refl _))
    have FNt_11 := Lib.hid Nt
    clear B Nt HB10 FT_10 FW_10 FA_10 FQ_10 FX5_10 FX6_10 FX7_10 FV1_10 FV2_10 FV3_10 FV4_10 FNs_10 FNz_10
    go_wp2_with fail
    have B : Below w.heap.size w (w11.alloc (.cells #[.int .i64 (sg (det a0_0 a0_1 a0_2 a0_3 a0_4 a0_5)), .slice Gt gt dt] 26)) := (HB11.out.alloc HB11.out.size _)
    have C : Below w11.heap.size w11 (w11.alloc (.cells #[.int .i64 (sg (det a0_0 a0_1 a0_2 a0_3 a0_4 a0_5)), .slice Gt gt dt] 26)) := ((Below.refl w11.heap.size w11).alloc (Nat.le_refl _) _)
    have X0 : Bx (w11.alloc (.cells #[.int .i64 (sg (det a0_0 a0_1 a0_2 a0_3 a0_4 a0_5)), .slice Gt gt dt] 26)) (w11.heap.size) #[.int .i64 (sg (det a0_0 a0_1 a0_2 a0_3 a0_4 a0_5)), .slice Gt gt dt] 26 := by simpa using (Bx.new w11 #[.int .i64 (sg (det a0_0 a0_1 a0_2 a0_3 a0_4 a0_5)), .slice Gt gt dt] 26)
    have FT_12 := Lib.hid (FT_11.out.below C (Nat.le_refl _))
    have FW_12 := Lib.hid (FW_11.out.below C (Nat.le_refl _))
    have FA_12 := Lib.hid (FA_11.out.below C (Nat.le_refl _))
    have FQ_12 := Lib.hid (FQ_11.out.below C (Nat.le_refl _))
    have FX5_12 := Lib.hid (FX5_11.out.below C (Nat.le_refl _))
    have FX6_12 := Lib.hid (FX6_11.out.below C (Nat.le_refl _))
    have FX7_12 := Lib.hid (FX7_11.out.below C (Nat.le_refl _))
    have FV1_12 := Lib.hid (FV1_11.out.below C (Nat.le_refl _))
    have FV2_12 := Lib.hid (FV2_11.out.below C (Nat.le_refl _))
    have FV3_12 := Lib.hid (FV3_11.out.below C (Nat.le_refl _))
    have FV4_12 := Lib.hid (FV4_11.out.below C (Nat.le_refl _))
    have FNt_12 := Lib.hid (FNt_11.out.below C (Nat.le_refl _))
    have HB12 := Lib.hid B
    have FM_12 := Lib.hid X0
    clear B C X0 HB11 FT_11 FW_11 FA_11 FQ_11 FX5_11 FX6_11 FX7_11 FV1_11 FV2_11 FV3_11 FV4_11 FNt_11
    generalize (w11.alloc (.cells #[.int .i64 (sg (det a0_0 a0_1 a0_2 a0_3 a0_4 a0_5)), .slice Gt gt dt] 26)) = w12 at *
    have RB12 := Lib.hid (below_drew0 w12)
    have QS12 := Lib.hid (show w12.cell? ⟨w11.heap.size, 0, none⟩ = some (.int .i64 (sg (det a0_0 a0_1 a0_2 a0_3 a0_4 a0_5))) ∧ w12.cell? ⟨w11.heap.size, 1, none⟩ = some (.slice Gt gt dt) from ⟨FM_12.out.cell 0 (v := .int .i64 (sg (det a0_0 a0_1 a0_2 a0_3 a0_4 a0_5))) rfl, FM_12.out.cell 1 (v := .slice Gt gt dt) rfl⟩)
    have QF12 := Lib.hid (show ∀ w', Below w12.heap.size w12 w' → w'.cell? ⟨w11.heap.size, 0, none⟩ = some (.int .i64 (sg (det a0_0 a0_1 a0_2 a0_3 a0_4 a0_5))) ∧ w'.cell? ⟨w11.heap.size, 1, none⟩ = some (.slice Gt gt dt) from fun w' hb => ⟨(FM_12.out.below hb (Nat.le_refl _)).cell 0 (v := .int .i64 (sg (det a0_0 a0_1 a0_2 a0_3 a0_4 a0_5))) rfl, (FM_12.out.below hb (Nat.le_refl _)).cell 1 (v := .slice Gt gt dt) rfl⟩)
    go_region_held3 (fun w' => w'.cell? ⟨w11.heap.size, 0, none⟩ = some (.int .i64 (sg (det a0_0 a0_1 a0_2 a0_3 a0_4 a0_5))) ∧ w'.cell? ⟨w11.heap.size, 1, none⟩ = some (.slice Gt gt dt)) (first | with_reducible exact QF12.out _ RB15.out | with_reducible exact QF12.out _ RB14.out | with_reducible exact QF12.out _ RB13.out | with_reducible exact QS12.out | with_reducible exact QF12.out _ RB12.out) (first
          | (go_at_call 28; have := RB14; clear this; refine (ref3_SubZ _ _ _ _ _ _ _ _ 0 (Int.sub_self _) _ (FNt_12.out.below RB14.out (Nat.le_refl _)) RNw_14.out (by omega) (by omega)).mono ?_; rintro e w15 ⟨⟨Gu, gu, du, rfl, bu_, Nu⟩, B⟩; have RB15 := Lib.hid (RB14.out.trans (B.mono RB14.out.size)); have RNw_15 := Lib.hid (RNw_14.out.below B (Nat.le_refl _)); clear B ; clear Nu; rw [sg_zero])
          | (go_at_call 26; have := RB13; clear this; refine (ref3_Value _ _ _ _ _ (FV4_12.out.below RB13.out (Nat.le_refl _)) q4.fit (by omega)).mono ?_; rintro e w14 ⟨⟨Gw, gw, dw, rfl, bw_, Nw⟩, B⟩; have RB14 := Lib.hid (RB13.out.trans (B.mono RB13.out.size)); have RNw_14 := Lib.hid Nw; clear B Nw)
          | (go_at_call 16; have := RB12; clear this; refine (alive6 _ (FT_12.out.below RB12.out (Nat.le_refl _)) (FW_12.out.below RB12.out (Nat.le_refl _))).mono ?_; rintro e w13 ⟨rfl, B⟩; have RB13 := Lib.hid (RB12.out.trans (B.mono RB12.out.size)); clear B ))
    have FT_15 := Lib.hid (FT_12.out.below RB15.out (Nat.le_refl _))
    have FW_15 := Lib.hid (FW_12.out.below RB15.out (Nat.le_refl _))
    have FA_15 := Lib.hid (FA_12.out.below RB15.out (Nat.le_refl _))
    have FQ_15 := Lib.hid (FQ_12.out.below RB15.out (Nat.le_refl _))
    have FX5_15 := Lib.hid (FX5_12.out.below RB15.out (Nat.le_refl _))
    have FX6_15 := Lib.hid (FX6_12.out.below RB15.out (Nat.le_refl _))
    have FX7_15 := Lib.hid (FX7_12.out.below RB15.out (Nat.le_refl _))
    have FV1_15 := Lib.hid (FV1_12.out.below RB15.out (Nat.le_refl _))
    have FV2_15 := Lib.hid (FV2_12.out.below RB15.out (Nat.le_refl _))
    have FV3_15 := Lib.hid (FV3_12.out.below RB15.out (Nat.le_refl _))
    have FV4_15 := Lib.hid (FV4_12.out.below RB15.out (Nat.le_refl _))
    have FNt_15 := Lib.hid (FNt_12.out.below RB15.out (Nat.le_refl _))
    have FM_15 := Lib.hid (FM_12.out.below RB15.out (Nat.le_refl _))
    have HB15 := Lib.hid (HB12.out.trans (RB15.out.mono HB12.out.size))
    clear HB12 FT_12 FW_12 FA_12 FQ_12 FX5_12 FX6_12 FX7_12 FV1_12 FV2_12 FV3_12 FV4_12 FNt_12 FM_12
    go_wp2_with fail
    go_ret
    exact ⟨rfl, HB15.out⟩

theorem gTab0 : Tryd.prog.globalNamed "geofence/mask.words" = some 1 := by kernel_rfl
theorem gTabType0 : (Tryd.prog.globals[1]?).map (·.type) = some 69 := by kernel_rfl
theorem cellsT0 : Tryd.prog.cellsOf 69 = 2 := by kernel_rfl
theorem cellsE0 : Tryd.prog.cellsOf 36 = 1 := by kernel_rfl
theorem tableIs0 {W : World} (h : laidMetH Tryd.prog Rows.orientAddsUpRow.laid W) : Lib.TabIs Tryd.prog W "geofence/mask.words" .u64 [9223372036854775808, 18446744073709551615] :=
  Lib.tabIs_of_head (rest := _) gTab0 gTabType0 Tryd.underlying69 Tryd.underlying36 cellsE0 cellsT0 h
theorem table0 {W : World} (h : laidMetH Tryd.prog Rows.orientAddsUpRow.laid W) : TabM W := ⟨(tableIs0 h).cell gTab0 0 (by decide), (tableIs0 h).cell gTab0 1 (by decide)⟩

theorem gTab1 : Tryd.prog.globalNamed "geofence/orient.wanted" = some 0 := by kernel_rfl
theorem gTabType1 : (Tryd.prog.globals[0]?).map (·.type) = some 69 := by kernel_rfl
theorem cellsT1 : Tryd.prog.cellsOf 69 = 2 := by kernel_rfl
theorem cellsE1 : Tryd.prog.cellsOf 36 = 1 := by kernel_rfl
theorem tableIs1 {W : World} (h : laidMetH Tryd.prog Rows.orientAddsUpRow.laid W) : Lib.TabIs Tryd.prog W "geofence/orient.wanted" .u64 [0, 1] :=
  Lib.tabIs_of_head (rest := _) gTab1 gTabType1 Tryd.underlying69 Tryd.underlying36 cellsE1 cellsT1 (laid_tail h)
theorem table1 {W : World} (h : laidMetH Tryd.prog Rows.orientAddsUpRow.laid W) : TabO W := ⟨(tableIs1 h).cell gTab1 0 (by decide), (tableIs1 h).cell gTab1 1 (by decide)⟩

theorem contract (H : Type) (enc : TypeId × Value → H) (W : World) (base : Nat) (args : Array Value) (ds gs : List (DataW H)) (before : List MemPlace)
    (hval : ∀ (j : Nat) t v, Tryd.f7.params[j]? = some t → args[j]? = some v → Value.okWide Tryd.prog W .any base t v)
    (hW : DataW.Whole enc Tryd.prog Tryd.f7.params.toList Rows.orientAddsUpSpec.vars false W args.toList ds gs before) (hL : laidMetH Tryd.prog Rows.orientAddsUpRow.laid W) :
    Calls Tryd.prog 7 args W fun e W' => ∃ v, e = .returned v ∧ Rows.orientAddsUpSpec.post enc Tryd.prog Tryd.f7 false true false false W args v W' := by
  have hW' := hW
  obtain ⟨p, q, hA0, hV, rfl, hfz, hnd⟩ := hW
  have hA : DataW.TrodAll enc Tryd.prog W 0 (fun _ => true) true Tryd.f7.params.toList args.toList ds p := hA0
  rw [Tryd.params7] at hA hval
  obtain ⟨v0, vs0, d0, ds0, p0, q0, hargs, rfl, rfl, h0, r0⟩ := trodAll_cons hA
  obtain ⟨v1, vs1, d1, ds1, p1, q1, rfl, rfl, rfl, h1, r1⟩ := trodAll_cons r0
  obtain ⟨rfl, rfl, rfl⟩ := trodAll_nil r1
  obtain rfl : args = #[v0, v1] := by cases args; simp_all
  obtain ⟨rfl, rfl⟩ := trodVars_none hV
  have k0 := h0
  have lt0 : ∀ x ∈ p0, x.block < W.heap.size := by obtain ⟨m, hm⟩ := k0; exact DataW.trod_lt m _ _ _ hm
  have k1 := h1
  have lt1 : ∀ x ∈ p1, x.block < W.heap.size := by obtain ⟨m, hm⟩ := k1; exact DataW.trod_lt m _ _ _ hm
  obtain ⟨a0_0, a0_1, a0_2, a0_3, a0_4, a0_5, rfl, w0_0, w0_1, w0_2, w0_3, w0_4, w0_5⟩ := Op.open_pts3 Tryd.underlying41 Tryd.underlying23 rfl rfl rfl rfl Tryd.underlying2 (by kernel_rfl) (by kernel_rfl) (by kernel_rfl) h0
  obtain ⟨a1, b1, rfl, w1, x1⟩ := Op.open_pt Tryd.underlying23 rfl rfl rfl rfl Tryd.underlying2 (by kernel_rfl) (by kernel_rfl) h1
  clear hA0
  refine (walk a0_0 a0_1 a0_2 a0_3 a0_4 a0_5 w0_0 w0_1 w0_2 w0_3 w0_4 w0_5 a1 b1 w1 x1 (table0 hL) (table1 hL)).mono fun e W' ⟨he, bel⟩ => ?_
  subst he
  exact ⟨_, rfl, _, _, _, [], _, [], hW', trodAll_mk1 (shut_bool Tryd.underlying4 _), (trodAll_cons_mk (Below.trod laidOut (by kernel_rfl) (of_decide_eq_true (by kernel_rfl)) k0 bel lt0) (trodAll_cons_mk (Below.trod laidOut (by kernel_rfl) (of_decide_eq_true (by kernel_rfl)) k1 bel lt1) trodAll_mk0)), rfl, bel.frame _, fun h => by cases h⟩

noncomputable def laidHeap (os : Os) : Array Obj :=
  ((World.holding Tryd.prog os ⟨#[], #[], []⟩).heap.modify 1 (fun
      | .cells _ t frozen => .cells #[.int .u64 9223372036854775808, .int .u64 18446744073709551615] t frozen
      | o => o)).modify 0 (fun
      | .cells _ t frozen => .cells #[.int .u64 0, .int .u64 1] t frozen
      | o => o)
noncomputable def laidWorld (os : Os) : World :=
  { World.holding Tryd.prog os ⟨#[], #[], []⟩ with heap := laidHeap os }
theorem laid_met (os : Os) : laidMet Tryd.prog Rows.orientAddsUpRow.laid ((laidWorld os).forCall (fun _ _ => 0) ⟨#[], #[.agg #[.int .i64 0, .int .i64 0, .int .i64 0, .int .i64 0, .int .i64 0, .int .i64 0], .agg #[.int .i64 0, .int .i64 0]], []⟩).memory :=
  laidMet_of_run' 8 (by kernel_rfl) (by kernel_rfl)
theorem reads (os : Os) {H : Type} (enc : TypeId × Value → H) : ∃ places, DataW.whole enc Tryd.prog ((laidWorld os).forCall (fun _ _ => 0) ⟨#[], #[.agg #[.int .i64 0, .int .i64 0, .int .i64 0, .int .i64 0, .int .i64 0, .int .i64 0], .agg #[.int .i64 0, .int .i64 0]], []⟩).memory Tryd.f7.params.toList Rows.orientAddsUpSpec.vars false (#[.agg #[.int .i64 0, .int .i64 0, .int .i64 0, .int .i64 0, .int .i64 0, .int .i64 0], .agg #[.int .i64 0, .int .i64 0]] : Array Value).toList 8 = some ([.agg [.agg [.lit (.int .i64 0), .lit (.int .i64 0)], .agg [.lit (.int .i64 0), .lit (.int .i64 0)], .agg [.lit (.int .i64 0), .lit (.int .i64 0)]], .agg [.lit (.int .i64 0), .lit (.int .i64 0)]], [], places) :=
  ⟨[], by kernel_rfl⟩

set_option maxRecDepth 100000 in
theorem lifted (os : Os) (started : os.Started) (H : Type) (enc : TypeId × Value → H) (F : Stop.Interp) :
    ReturnsInHanded {} Tryd.checked os 7 .any ((OpenSpec.ofChange Rows.orientAddsUpSpec).preRow enc Tryd.prog Tryd.f7 Rows.orientAddsUpRow.domain false Rows.orientAddsUpRow.laid) (((OpenSpec.ofChange Rows.orientAddsUpSpec).at F).post enc Tryd.prog Tryd.f7 false true false false) := by
  obtain ⟨places, hx⟩ := reads os enc
  refine returnsInHanded_of_row (C := Tryd.checked) (s := OpenSpec.ofChange Rows.orientAddsUpSpec) own started (by kernel_rfl) Tryd.func7
    (witness_row_at (enc := enc) (C := Tryd.checked) false (laidWorld os) #[.agg #[.int .i64 0, .int .i64 0, .int .i64 0, .int .i64 0, .int .i64 0, .int .i64 0], .agg #[.int .i64 0, .int .i64 0]] rfl (by kernel_rfl) (by kernel_rfl) (by kernel_rfl)
      (OpenSpec.preRow_of_cond 8 hx (by kernel_rfl) (fun k hk => by cases hk) (by kernel_rfl) (laid_met os))) ?_
  intro W base args ds gs before hval hW _ _ _ hL _ _
  exact contract H enc W base args ds gs before hval hW hL

theorem said : Rows.OrientAddsUpSaid :=
  OpenClaim.holds_of_cond 7 Tryd.f7 rfl rfl rfl rfl rfl rfl rfl ⟨rfl, rfl, rfl, rfl, rfl⟩ rfl rfl rfl rfl rfl (by kernel_rfl) Tryd.func7 (by kernel_rfl)
    (of_decide_eq_true (by kernel_rfl)) (by unfold Func.isWrapper; first | (rw [if_pos (by decide +kernel)]; kernel_rfl) | (rw [if_neg (by decide +kernel)]; exact ⟨rfl, rfl⟩))
    (fun os started H enc _ F => by rw [OpenClaim.pre_eq_preRow]; exact lifted os started H enc F)

theorem plain (f : FuncId) (fn : Func) (hf : Tryd.pinned.checked.prog.funcNamed "geofence/geofencelaw06.OrientAddsUp" = some f) (hfn : Tryd.pinned.checked.prog.funcs[f]? = some fn) :
    false = Tryd.pinned.checked.prog.looks [] ∧ ∀ (j : Nat) t, fn.params[j]? = some t → Tryd.pinned.checked.prog.wantsStandIn t = false := by
  obtain rfl : f = 7 := Option.some.inj ((show Tryd.prog.funcNamed "geofence/geofencelaw06.OrientAddsUp" = some 7 by kernel_rfl).symm.trans hf) |>.symm
  obtain rfl : fn = Tryd.f7 := (Option.some.inj (Tryd.func7.symm.trans hfn)).symm
  refine ⟨by kernel_rfl, fun j t ht => ?_⟩
  rw [Tryd.params7] at ht
  have hm := Array.mem_of_getElem? ht
  simp at hm
  rcases hm with rfl | rfl
  · exact (show Tryd.prog.wantsStandIn 41 = false by kernel_rfl)
  · exact (show Tryd.prog.wantsStandIn 23 = false by kernel_rfl)

/-- THE CARD -/
theorem card : Rows.OrientAddsUpCardSaid :=
  Claim7.holds_tied_plain_at .later [] _ _ _ _ said (fun _ h => by cases h) (by kernel_rfl) (fun _ h => by cases h) orientAddsUp_row_tie rfl ⟨rfl, rfl⟩ (by kernel_rfl) rfl plain (by kernel_rfl)
#print axioms card
end Go.Proofs.YtfjanlfbnliokaaDoor.orientAddsUp
