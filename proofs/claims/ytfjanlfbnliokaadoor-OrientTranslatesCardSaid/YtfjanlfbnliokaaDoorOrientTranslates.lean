/- OrientTranslates: for every input the law returns true, and each argument reads afterwards as it read before; the package variable that the row lists holds what it lists. -/
import Derived.Test.YtfjanlfbnliokaaDoorCards
import Derived.Test.YtfjanlfbnliokaaDoorTie
import Derived.Test.YtfjanlfbnliokaaDoorLaw6b
import Derived.Test.YtfjanlfbnliokaaDoorOpenPt
import Derived.WalkKit
import Derived.ProofKit
import Derived.OpenShut
import Derived.Below
import Derived.Deep.DeepHandedRow
import Derived.Lib.LaidTab
import Derived.Test.YtfjanlfbnliokaaDoorTab
namespace Go.Proofs.YtfjanlfbnliokaaDoor.orientTranslates
open Go.ChangeShapes Go.WideShapes Go.ChangeAt Go.RowKit Wd
set_option linter.unusedVariables false
set_option linter.unusedSimpArgs false

theorem own : ownKnob Tryd.prog.godebug = none := by kernel_rfl
theorem laidOut : laidOutB Tryd.prog = true := by kernel_rfl

set_option maxHeartbeats 4000000 in
theorem walk {w : World} (a0_0 a0_1 a0_2 a0_3 a0_4 a0_5 : Int) (w0_0 : (Lit.int .i64 a0_0).wf = true) (w0_1 : (Lit.int .i64 a0_1).wf = true) (w0_2 : (Lit.int .i64 a0_2).wf = true) (w0_3 : (Lit.int .i64 a0_3).wf = true) (w0_4 : (Lit.int .i64 a0_4).wf = true) (w0_5 : (Lit.int .i64 a0_5).wf = true) (a1 b1 : Int) (w1 : (Lit.int .i64 a1).wf = true) (x1 : (Lit.int .i64 b1).wf = true) (hT : TabM w) (hW : TabO w) :
    Calls Tryd.prog 6 #[.agg #[.int .i64 a0_0, .int .i64 a0_1, .int .i64 a0_2, .int .i64 a0_3, .int .i64 a0_4, .int .i64 a0_5], .agg #[.int .i64 a1, .int .i64 b1]] w fun e w' => e = .returned (.bool true) ∧ Below w.heap.size w w' := by
  have HB0 := Lib.hid (Below.refl w.heap.size w)
  have i0_0 := isI_of_wf w0_0
  have i0_1 := isI_of_wf w0_1
  have i0_2 := isI_of_wf w0_2
  have i0_3 := isI_of_wf w0_3
  have i0_4 := isI_of_wf w0_4
  have i0_5 := isI_of_wf w0_5
  have ia1 := isI_of_wf w1
  have ib1 := isI_of_wf x1
  have FT := Lib.hid hT; clear hT
  have FW := Lib.hid hW; clear hW
  generalize hb0 : (okI a0_0 a1 && okI a0_1 b1) = t0
  have fr0 := flI_range t0
  generalize hb1 : (okI a0_2 a1 && okI a0_3 b1) = t1
  have fr1 := flI_range t1
  generalize hb2 : (okI a0_4 a1 && okI a0_5 b1) = t2
  have fr2 := flI_range t2
  by_cases hall : t0 = true ∧ t1 = true ∧ t2 = true
  · obtain ⟨rfl, rfl, rfl⟩ := hall
    have k0 := and_true2 hb0; have e0x := Lib.hid (okI_true k0.1).2; have e0y := Lib.hid (okI_true k0.2).2; have j0x := (okI_true k0.1).1; have j0y := (okI_true k0.2).1; clear k0
    have k1 := and_true2 hb1; have e1x := Lib.hid (okI_true k1.1).2; have e1y := Lib.hid (okI_true k1.2).2; have j1x := (okI_true k1.1).1; have j1y := (okI_true k1.2).1; clear k1
    have k2 := and_true2 hb2; have e2x := Lib.hid (okI_true k2.1).2; have e2y := Lib.hid (okI_true k2.2).2; have j2x := (okI_true k2.1).1; have j2y := (okI_true k2.2).1; clear k2
    have HB_0 := Lib.hid hb0; clear hb0; have hb0 := HB_0; clear HB_0
    have HB_1 := Lib.hid hb1; clear hb1; have hb1 := HB_1; clear HB_1
    have HB_2 := Lib.hid hb2; clear hb2; have hb2 := HB_2; clear HB_2
    go_enter Tryd.func6, Tryd.ntmps6
    go_wp2_with fail
    have B : Below w.heap.size w ((w.alloc (.cells #[.int .i64 a0_0, .int .i64 a0_1, .int .i64 a0_2, .int .i64 a0_3, .int .i64 a0_4, .int .i64 a0_5] 41)).alloc (.cells #[.int .i64 a1, .int .i64 b1] 23)) := ((HB0.out.alloc HB0.out.size _).alloc (HB0.out.alloc HB0.out.size _).size _)
    have C : Below w.heap.size w ((w.alloc (.cells #[.int .i64 a0_0, .int .i64 a0_1, .int .i64 a0_2, .int .i64 a0_3, .int .i64 a0_4, .int .i64 a0_5] 41)).alloc (.cells #[.int .i64 a1, .int .i64 b1] 23)) := (((Below.refl w.heap.size w).alloc (Nat.le_refl _) _).alloc (by simp; try omega) _)
    have X0 : Bx ((w.alloc (.cells #[.int .i64 a0_0, .int .i64 a0_1, .int .i64 a0_2, .int .i64 a0_3, .int .i64 a0_4, .int .i64 a0_5] 41)).alloc (.cells #[.int .i64 a1, .int .i64 b1] 23)) (w.heap.size) #[.int .i64 a0_0, .int .i64 a0_1, .int .i64 a0_2, .int .i64 a0_3, .int .i64 a0_4, .int .i64 a0_5] 41 := by simpa using ((Bx.new w #[.int .i64 a0_0, .int .i64 a0_1, .int .i64 a0_2, .int .i64 a0_3, .int .i64 a0_4, .int .i64 a0_5] 41).alloc _)
    have X1 : Bx ((w.alloc (.cells #[.int .i64 a0_0, .int .i64 a0_1, .int .i64 a0_2, .int .i64 a0_3, .int .i64 a0_4, .int .i64 a0_5] 41)).alloc (.cells #[.int .i64 a1, .int .i64 b1] 23)) (w.heap.size + 1) #[.int .i64 a1, .int .i64 b1] 23 := by simpa using (Bx.new (w.alloc (.cells #[.int .i64 a0_0, .int .i64 a0_1, .int .i64 a0_2, .int .i64 a0_3, .int .i64 a0_4, .int .i64 a0_5] 41)) #[.int .i64 a1, .int .i64 b1] 23)
    have FT_1 := Lib.hid (FT.out.below C (Nat.le_refl _))
    have FW_1 := Lib.hid (FW.out.below C (Nat.le_refl _))
    have HB1 := Lib.hid B
    have FA_1 := Lib.hid X0
    have FQ_1 := Lib.hid X1
    clear B C X0 X1 HB0 FT FW
    generalize ((w.alloc (.cells #[.int .i64 a0_0, .int .i64 a0_1, .int .i64 a0_2, .int .i64 a0_3, .int .i64 a0_4, .int .i64 a0_5] 41)).alloc (.cells #[.int .i64 a1, .int .i64 b1] 23)) = w1 at *
    go_upto_region 1 with (fail)
    have M0 := trivial
    have QF := Lib.hid (show ∀ w', Below w1.heap.size w1 w' → w'.cell? ⟨w.heap.size, 0, none⟩ = some (.int .i64 a0_0) ∧ w'.cell? ⟨w.heap.size, 1, none⟩ = some (.int .i64 a0_1) ∧ w'.cell? ⟨w.heap.size, 2, none⟩ = some (.int .i64 a0_2) ∧ w'.cell? ⟨w.heap.size, 3, none⟩ = some (.int .i64 a0_3) ∧ w'.cell? ⟨w.heap.size, 4, none⟩ = some (.int .i64 a0_4) ∧ w'.cell? ⟨w.heap.size, 5, none⟩ = some (.int .i64 a0_5) from fun w' hb => ⟨(FA_1.out.below hb (Nat.le_refl _)).cell 0 (v := .int .i64 a0_0) rfl, (FA_1.out.below hb (Nat.le_refl _)).cell 1 (v := .int .i64 a0_1) rfl, (FA_1.out.below hb (Nat.le_refl _)).cell 2 (v := .int .i64 a0_2) rfl, (FA_1.out.below hb (Nat.le_refl _)).cell 3 (v := .int .i64 a0_3) rfl, (FA_1.out.below hb (Nat.le_refl _)).cell 4 (v := .int .i64 a0_4) rfl, (FA_1.out.below hb (Nat.le_refl _)).cell 5 (v := .int .i64 a0_5) rfl⟩)
    go_cut [5, 6, 7] (fun s5 s6 s7 wx => Cut3P w1 a0_0 a0_1 a0_2 a0_3 a0_4 a0_5 s5 s6 s7 wx)
    case first =>
      go_region_held3 (fun w' => w'.cell? ⟨w.heap.size, 0, none⟩ = some (.int .i64 a0_0) ∧ w'.cell? ⟨w.heap.size, 1, none⟩ = some (.int .i64 a0_1) ∧ w'.cell? ⟨w.heap.size, 2, none⟩ = some (.int .i64 a0_2) ∧ w'.cell? ⟨w.heap.size, 3, none⟩ = some (.int .i64 a0_3) ∧ w'.cell? ⟨w.heap.size, 4, none⟩ = some (.int .i64 a0_4) ∧ w'.cell? ⟨w.heap.size, 5, none⟩ = some (.int .i64 a0_5)) (first | (with_reducible refine QF.out _ ?_; (repeat (first | with_reducible exact below_rf | with_reducible refine below_dr ?_ | with_reducible refine below_al ?_ | (with_reducible refine below_st ?_ ?_; (focus (first | with_reducible assumption | with_reducible exact Nat.le_refl _ | (simp; done) | omega | (simp <;> omega)))))); done)) (first
              | fail)
      all_goals (go_wp2_with fail; go_meet; exact ⟨_, _, _, rfl, rfl, rfl, by (repeat (first | (with_reducible refine bx_set2 (z0 := .int .i64 0) (z1 := .int .i64 0) ?_) | (with_reducible refine bx_new ?_; (focus (first | with_reducible rfl | (simp; done)))) | with_reducible refine bx_al ?_ | (with_reducible refine bx_ot ?_ ?_; (focus (first | (simp; done) | omega | (simp <;> omega)))) | with_reducible refine bx_dr ?_)), by (repeat (first | (with_reducible refine bx_set2 (z0 := .int .i64 0) (z1 := .int .i64 0) ?_) | (with_reducible refine bx_new ?_; (focus (first | with_reducible rfl | (simp; done)))) | with_reducible refine bx_al ?_ | (with_reducible refine bx_ot ?_ ?_; (focus (first | (simp; done) | omega | (simp <;> omega)))) | with_reducible refine bx_dr ?_)), by (repeat (first | (with_reducible refine bx_set2 (z0 := .int .i64 0) (z1 := .int .i64 0) ?_) | (with_reducible refine bx_new ?_; (focus (first | with_reducible rfl | (simp; done)))) | with_reducible refine bx_al ?_ | (with_reducible refine bx_ot ?_ ?_; (focus (first | (simp; done) | omega | (simp <;> omega)))) | with_reducible refine bx_dr ?_)), by (repeat (first | with_reducible exact below_rf | with_reducible refine below_dr ?_ | with_reducible refine below_al ?_ | (with_reducible refine below_st ?_ ?_; (focus (first | with_reducible assumption | with_reducible exact Nat.le_refl _ | (simp; done) | omega | (simp <;> omega))))))⟩)
    case rest =>
      clear QF M0
      obtain ⟨b5, b6, b7, rfl, rfl, rfl, H5, H6, H7, HCB⟩ := hcut
      have FT_2 := Lib.hid (FT_1.out.below HCB (Nat.le_refl _)); clear FT_1
      have FW_2 := Lib.hid (FW_1.out.below HCB (Nat.le_refl _)); clear FW_1
      have FA_2 := Lib.hid (FA_1.out.below HCB (Nat.le_refl _)); clear FA_1
      have FQ_2 := Lib.hid (FQ_1.out.below HCB (Nat.le_refl _)); clear FQ_1
      have HB2 := Lib.hid (HB1.out.trans (HCB.mono HB1.out.size)); clear HCB HB1
      have FX5 := Lib.hid H5; clear H5
      have FX6 := Lib.hid H6; clear H6
      have FX7 := Lib.hid H7; clear H7
      have vX50 := FX5.out.cell 0 (v := .int .i64 a0_0) rfl
      have vX51 := FX5.out.cell 1 (v := .int .i64 a0_1) rfl
      have vQ0 := FQ_2.out.cell 0 (v := .int .i64 a1) rfl
      have vQ1 := FQ_2.out.cell 1 (v := .int .i64 b1) rfl
      go_wp2_with fail
      refine (law6_shift a0_0 a0_1 a1 b1 i0_0 i0_1 ia1 ib1 _ hb0.out _).mono ?_
      rintro e w3 ⟨rfl, B⟩
      clear vX50 vX51 vQ0 vQ1
      have HB3 := Lib.hid (HB2.out.trans (B.mono HB2.out.size))
      have FT_3 := Lib.hid (FT_2.out.below B (Nat.le_refl _))
      have FW_3 := Lib.hid (FW_2.out.below B (Nat.le_refl _))
      have FA_3 := Lib.hid (FA_2.out.below B (Nat.le_refl _))
      have FQ_3 := Lib.hid (FQ_2.out.below B (Nat.le_refl _))
      have FX5_3 := Lib.hid (FX5.out.below B (Nat.le_refl _))
      have FX6_3 := Lib.hid (FX6.out.below B (Nat.le_refl _))
      have FX7_3 := Lib.hid (FX7.out.below B (Nat.le_refl _))
      clear B  HB2 FT_2 FW_2 FA_2 FQ_2 FX5 FX6 FX7
      rw [show flI true = 1 from rfl]
      rw [e0x.out, e0y.out]
      have vX60 := FX6_3.out.cell 0 (v := .int .i64 a0_2) rfl
      have vX61 := FX6_3.out.cell 1 (v := .int .i64 a0_3) rfl
      have vQ0 := FQ_3.out.cell 0 (v := .int .i64 a1) rfl
      have vQ1 := FQ_3.out.cell 1 (v := .int .i64 b1) rfl
      have vl1 := FX6_3.out.lt; have vl2 := FQ_3.out.lt
      go_wp2_with fail
      clear vX60 vX61 vQ0 vQ1 vl1 vl2
      have B : Below w.heap.size w (w3.alloc (.cells #[.int .i64 (a0_0 + a1), .int .i64 (a0_1 + b1)] 23)) := (HB3.out.alloc HB3.out.size _)
      have C : Below w3.heap.size w3 (w3.alloc (.cells #[.int .i64 (a0_0 + a1), .int .i64 (a0_1 + b1)] 23)) := ((Below.refl w3.heap.size w3).alloc (Nat.le_refl _) _)
      have X0 : Bx (w3.alloc (.cells #[.int .i64 (a0_0 + a1), .int .i64 (a0_1 + b1)] 23)) (w3.heap.size) #[.int .i64 (a0_0 + a1), .int .i64 (a0_1 + b1)] 23 := by simpa using (Bx.new w3 #[.int .i64 (a0_0 + a1), .int .i64 (a0_1 + b1)] 23)
      have FT_4 := Lib.hid (FT_3.out.below C (Nat.le_refl _))
      have FW_4 := Lib.hid (FW_3.out.below C (Nat.le_refl _))
      have FA_4 := Lib.hid (FA_3.out.below C (Nat.le_refl _))
      have FQ_4 := Lib.hid (FQ_3.out.below C (Nat.le_refl _))
      have FX5_4 := Lib.hid (FX5_3.out.below C (Nat.le_refl _))
      have FX6_4 := Lib.hid (FX6_3.out.below C (Nat.le_refl _))
      have FX7_4 := Lib.hid (FX7_3.out.below C (Nat.le_refl _))
      have HB4 := Lib.hid B
      have FY0_4 := Lib.hid X0
      clear B C X0 HB3 FT_3 FW_3 FA_3 FQ_3 FX5_3 FX6_3 FX7_3
      generalize (w3.alloc (.cells #[.int .i64 (a0_0 + a1), .int .i64 (a0_1 + b1)] 23)) = w4 at *
      skip
      refine (law6_shift a0_2 a0_3 a1 b1 i0_2 i0_3 ia1 ib1 _ hb1.out _).mono ?_
      rintro e w5 ⟨rfl, B⟩
      have HB5 := Lib.hid (HB4.out.trans (B.mono HB4.out.size))
      have FT_5 := Lib.hid (FT_4.out.below B (Nat.le_refl _))
      have FW_5 := Lib.hid (FW_4.out.below B (Nat.le_refl _))
      have FA_5 := Lib.hid (FA_4.out.below B (Nat.le_refl _))
      have FQ_5 := Lib.hid (FQ_4.out.below B (Nat.le_refl _))
      have FX5_5 := Lib.hid (FX5_4.out.below B (Nat.le_refl _))
      have FX6_5 := Lib.hid (FX6_4.out.below B (Nat.le_refl _))
      have FX7_5 := Lib.hid (FX7_4.out.below B (Nat.le_refl _))
      have FY0_5 := Lib.hid (FY0_4.out.below B (Nat.le_refl _))
      clear B  HB4 FT_4 FW_4 FA_4 FQ_4 FX5_4 FX6_4 FX7_4 FY0_4
      rw [show flI true = 1 from rfl]
      rw [e1x.out, e1y.out]
      have vX70 := FX7_5.out.cell 0 (v := .int .i64 a0_4) rfl
      have vX71 := FX7_5.out.cell 1 (v := .int .i64 a0_5) rfl
      have vQ0 := FQ_5.out.cell 0 (v := .int .i64 a1) rfl
      have vQ1 := FQ_5.out.cell 1 (v := .int .i64 b1) rfl
      have vl1 := FX7_5.out.lt; have vl2 := FQ_5.out.lt
      go_wp2_with fail
      clear vX70 vX71 vQ0 vQ1 vl1 vl2
      have B : Below w.heap.size w (w5.alloc (.cells #[.int .i64 (a0_2 + a1), .int .i64 (a0_3 + b1)] 23)) := (HB5.out.alloc HB5.out.size _)
      have C : Below w5.heap.size w5 (w5.alloc (.cells #[.int .i64 (a0_2 + a1), .int .i64 (a0_3 + b1)] 23)) := ((Below.refl w5.heap.size w5).alloc (Nat.le_refl _) _)
      have X0 : Bx (w5.alloc (.cells #[.int .i64 (a0_2 + a1), .int .i64 (a0_3 + b1)] 23)) (w5.heap.size) #[.int .i64 (a0_2 + a1), .int .i64 (a0_3 + b1)] 23 := by simpa using (Bx.new w5 #[.int .i64 (a0_2 + a1), .int .i64 (a0_3 + b1)] 23)
      have FT_6 := Lib.hid (FT_5.out.below C (Nat.le_refl _))
      have FW_6 := Lib.hid (FW_5.out.below C (Nat.le_refl _))
      have FA_6 := Lib.hid (FA_5.out.below C (Nat.le_refl _))
      have FQ_6 := Lib.hid (FQ_5.out.below C (Nat.le_refl _))
      have FX5_6 := Lib.hid (FX5_5.out.below C (Nat.le_refl _))
      have FX6_6 := Lib.hid (FX6_5.out.below C (Nat.le_refl _))
      have FX7_6 := Lib.hid (FX7_5.out.below C (Nat.le_refl _))
      have FY0_6 := Lib.hid (FY0_5.out.below C (Nat.le_refl _))
      have HB6 := Lib.hid B
      have FY1_6 := Lib.hid X0
      clear B C X0 HB5 FT_5 FW_5 FA_5 FQ_5 FX5_5 FX6_5 FX7_5 FY0_5
      generalize (w5.alloc (.cells #[.int .i64 (a0_2 + a1), .int .i64 (a0_3 + b1)] 23)) = w6 at *
      skip
      refine (law6_shift a0_4 a0_5 a1 b1 i0_4 i0_5 ia1 ib1 _ hb2.out _).mono ?_
      rintro e w7 ⟨rfl, B⟩
      have HB7 := Lib.hid (HB6.out.trans (B.mono HB6.out.size))
      have FT_7 := Lib.hid (FT_6.out.below B (Nat.le_refl _))
      have FW_7 := Lib.hid (FW_6.out.below B (Nat.le_refl _))
      have FA_7 := Lib.hid (FA_6.out.below B (Nat.le_refl _))
      have FQ_7 := Lib.hid (FQ_6.out.below B (Nat.le_refl _))
      have FX5_7 := Lib.hid (FX5_6.out.below B (Nat.le_refl _))
      have FX6_7 := Lib.hid (FX6_6.out.below B (Nat.le_refl _))
      have FX7_7 := Lib.hid (FX7_6.out.below B (Nat.le_refl _))
      have FY0_7 := Lib.hid (FY0_6.out.below B (Nat.le_refl _))
      have FY1_7 := Lib.hid (FY1_6.out.below B (Nat.le_refl _))
      clear B  HB6 FT_6 FW_6 FA_6 FQ_6 FX5_6 FX6_6 FX7_6 FY0_6 FY1_6
      rw [show flI true = 1 from rfl]
      rw [e2x.out, e2y.out]
      go_wp2_with fail
      have B : Below w.heap.size w (w7.alloc (.cells #[.int .i64 (a0_4 + a1), .int .i64 (a0_5 + b1)] 23)) := (HB7.out.alloc HB7.out.size _)
      have C : Below w7.heap.size w7 (w7.alloc (.cells #[.int .i64 (a0_4 + a1), .int .i64 (a0_5 + b1)] 23)) := ((Below.refl w7.heap.size w7).alloc (Nat.le_refl _) _)
      have X0 : Bx (w7.alloc (.cells #[.int .i64 (a0_4 + a1), .int .i64 (a0_5 + b1)] 23)) (w7.heap.size) #[.int .i64 (a0_4 + a1), .int .i64 (a0_5 + b1)] 23 := by simpa using (Bx.new w7 #[.int .i64 (a0_4 + a1), .int .i64 (a0_5 + b1)] 23)
      have FT_8 := Lib.hid (FT_7.out.below C (Nat.le_refl _))
      have FW_8 := Lib.hid (FW_7.out.below C (Nat.le_refl _))
      have FA_8 := Lib.hid (FA_7.out.below C (Nat.le_refl _))
      have FQ_8 := Lib.hid (FQ_7.out.below C (Nat.le_refl _))
      have FX5_8 := Lib.hid (FX5_7.out.below C (Nat.le_refl _))
      have FX6_8 := Lib.hid (FX6_7.out.below C (Nat.le_refl _))
      have FX7_8 := Lib.hid (FX7_7.out.below C (Nat.le_refl _))
      have FY0_8 := Lib.hid (FY0_7.out.below C (Nat.le_refl _))
      have FY1_8 := Lib.hid (FY1_7.out.below C (Nat.le_refl _))
      have HB8 := Lib.hid B
      have FY2_8 := Lib.hid X0
      clear B C X0 HB7 FT_7 FW_7 FA_7 FQ_7 FX5_7 FX6_7 FX7_7 FY0_7 FY1_7
      generalize (w7.alloc (.cells #[.int .i64 (a0_4 + a1), .int .i64 (a0_5 + b1)] 23)) = w8 at *
      have es := Lib.hid (show det (a0_0 + a1) (a0_1 + b1) (a0_2 + a1) (a0_3 + b1) (a0_4 + a1) (a0_5 + b1) = det a0_0 a0_1 a0_2 a0_3 a0_4 a0_5 from det_shift _ _ _ _ _ _ _ _)
      go_wp2_with fail
      have RB8 := Lib.hid (below_drew0 w8)
      have QS8 := Lib.hid (show w8.cell? ⟨b5, 0, none⟩ = some (.int .i64 a0_0) ∧ w8.cell? ⟨b5, 1, none⟩ = some (.int .i64 a0_1) ∧ w8.cell? ⟨b6, 0, none⟩ = some (.int .i64 a0_2) ∧ w8.cell? ⟨b6, 1, none⟩ = some (.int .i64 a0_3) ∧ w8.cell? ⟨b7, 0, none⟩ = some (.int .i64 a0_4) ∧ w8.cell? ⟨b7, 1, none⟩ = some (.int .i64 a0_5) ∧ w8.cell? ⟨w3.heap.size, 0, none⟩ = some (.int .i64 (a0_0 + a1)) ∧ w8.cell? ⟨w3.heap.size, 1, none⟩ = some (.int .i64 (a0_1 + b1)) ∧ w8.cell? ⟨w5.heap.size, 0, none⟩ = some (.int .i64 (a0_2 + a1)) ∧ w8.cell? ⟨w5.heap.size, 1, none⟩ = some (.int .i64 (a0_3 + b1)) ∧ w8.cell? ⟨w7.heap.size, 0, none⟩ = some (.int .i64 (a0_4 + a1)) ∧ w8.cell? ⟨w7.heap.size, 1, none⟩ = some (.int .i64 (a0_5 + b1)) from ⟨FX5_8.out.cell 0 (v := .int .i64 a0_0) rfl, FX5_8.out.cell 1 (v := .int .i64 a0_1) rfl, FX6_8.out.cell 0 (v := .int .i64 a0_2) rfl, FX6_8.out.cell 1 (v := .int .i64 a0_3) rfl, FX7_8.out.cell 0 (v := .int .i64 a0_4) rfl, FX7_8.out.cell 1 (v := .int .i64 a0_5) rfl, FY0_8.out.cell 0 (v := .int .i64 (a0_0 + a1)) rfl, FY0_8.out.cell 1 (v := .int .i64 (a0_1 + b1)) rfl, FY1_8.out.cell 0 (v := .int .i64 (a0_2 + a1)) rfl, FY1_8.out.cell 1 (v := .int .i64 (a0_3 + b1)) rfl, FY2_8.out.cell 0 (v := .int .i64 (a0_4 + a1)) rfl, FY2_8.out.cell 1 (v := .int .i64 (a0_5 + b1)) rfl⟩)
      have QF8 := Lib.hid (show ∀ w', Below w8.heap.size w8 w' → w'.cell? ⟨b5, 0, none⟩ = some (.int .i64 a0_0) ∧ w'.cell? ⟨b5, 1, none⟩ = some (.int .i64 a0_1) ∧ w'.cell? ⟨b6, 0, none⟩ = some (.int .i64 a0_2) ∧ w'.cell? ⟨b6, 1, none⟩ = some (.int .i64 a0_3) ∧ w'.cell? ⟨b7, 0, none⟩ = some (.int .i64 a0_4) ∧ w'.cell? ⟨b7, 1, none⟩ = some (.int .i64 a0_5) ∧ w'.cell? ⟨w3.heap.size, 0, none⟩ = some (.int .i64 (a0_0 + a1)) ∧ w'.cell? ⟨w3.heap.size, 1, none⟩ = some (.int .i64 (a0_1 + b1)) ∧ w'.cell? ⟨w5.heap.size, 0, none⟩ = some (.int .i64 (a0_2 + a1)) ∧ w'.cell? ⟨w5.heap.size, 1, none⟩ = some (.int .i64 (a0_3 + b1)) ∧ w'.cell? ⟨w7.heap.size, 0, none⟩ = some (.int .i64 (a0_4 + a1)) ∧ w'.cell? ⟨w7.heap.size, 1, none⟩ = some (.int .i64 (a0_5 + b1)) from fun w' hb => ⟨(FX5_8.out.below hb (Nat.le_refl _)).cell 0 (v := .int .i64 a0_0) rfl, (FX5_8.out.below hb (Nat.le_refl _)).cell 1 (v := .int .i64 a0_1) rfl, (FX6_8.out.below hb (Nat.le_refl _)).cell 0 (v := .int .i64 a0_2) rfl, (FX6_8.out.below hb (Nat.le_refl _)).cell 1 (v := .int .i64 a0_3) rfl, (FX7_8.out.below hb (Nat.le_refl _)).cell 0 (v := .int .i64 a0_4) rfl, (FX7_8.out.below hb (Nat.le_refl _)).cell 1 (v := .int .i64 a0_5) rfl, (FY0_8.out.below hb (Nat.le_refl _)).cell 0 (v := .int .i64 (a0_0 + a1)) rfl, (FY0_8.out.below hb (Nat.le_refl _)).cell 1 (v := .int .i64 (a0_1 + b1)) rfl, (FY1_8.out.below hb (Nat.le_refl _)).cell 0 (v := .int .i64 (a0_2 + a1)) rfl, (FY1_8.out.below hb (Nat.le_refl _)).cell 1 (v := .int .i64 (a0_3 + b1)) rfl, (FY2_8.out.below hb (Nat.le_refl _)).cell 0 (v := .int .i64 (a0_4 + a1)) rfl, (FY2_8.out.below hb (Nat.le_refl _)).cell 1 (v := .int .i64 (a0_5 + b1)) rfl⟩)
      go_region_held3 (fun w' => w'.cell? ⟨b5, 0, none⟩ = some (.int .i64 a0_0) ∧ w'.cell? ⟨b5, 1, none⟩ = some (.int .i64 a0_1) ∧ w'.cell? ⟨b6, 0, none⟩ = some (.int .i64 a0_2) ∧ w'.cell? ⟨b6, 1, none⟩ = some (.int .i64 a0_3) ∧ w'.cell? ⟨b7, 0, none⟩ = some (.int .i64 a0_4) ∧ w'.cell? ⟨b7, 1, none⟩ = some (.int .i64 a0_5) ∧ w'.cell? ⟨w3.heap.size, 0, none⟩ = some (.int .i64 (a0_0 + a1)) ∧ w'.cell? ⟨w3.heap.size, 1, none⟩ = some (.int .i64 (a0_1 + b1)) ∧ w'.cell? ⟨w5.heap.size, 0, none⟩ = some (.int .i64 (a0_2 + a1)) ∧ w'.cell? ⟨w5.heap.size, 1, none⟩ = some (.int .i64 (a0_3 + b1)) ∧ w'.cell? ⟨w7.heap.size, 0, none⟩ = some (.int .i64 (a0_4 + a1)) ∧ w'.cell? ⟨w7.heap.size, 1, none⟩ = some (.int .i64 (a0_5 + b1))) (first | with_reducible exact QF8.out _ RB12.out | with_reducible exact QF8.out _ RB11.out | with_reducible exact QF8.out _ RB10.out | with_reducible exact QF8.out _ RB9.out | with_reducible exact QS8.out | with_reducible exact QF8.out _ RB8.out) (first
              | (go_at_call 17; have := RB11; clear this; refine (ref3_Same _ _ _ _ _ _ _ _ RV1_11.out RV2_11.out (fun _ _ => by rw [es.out])).mono ?_; rintro e w12 ⟨rfl, B⟩; have RB12 := Lib.hid (RB11.out.trans (B.mono RB11.out.size)); have RV1_12 := Lib.hid (RV1_11.out.below B (Nat.le_refl _)); have RV2_12 := Lib.hid (RV2_11.out.below B (Nat.le_refl _)); clear B )
              | (go_at_call 18; have := RB10; clear this; refine (orient_Value (a0_0 + a1) (a0_1 + b1) (a0_2 + a1) (a0_3 + b1) (a0_4 + a1) (a0_5 + b1) (show P3 (a0_0 + a1) (a0_1 + b1) (a0_2 + a1) (a0_3 + b1) (a0_4 + a1) (a0_5 + b1) from ⟨j0x, j0y, j1x, j1y, j2x, j2y⟩) _).mono ?_; rintro e w11 ⟨⟨U2, u2, rfl, S2⟩, B⟩; have RB11 := Lib.hid (RB10.out.trans (B.mono RB10.out.size)); have RV1_11 := Lib.hid (RV1_10.out.below B (Nat.le_refl _)); have RV2_11 := Lib.hid S2; clear B S2)
              | (go_at_call 18; have := RB9; clear this; refine (orient_Value a0_0 a0_1 a0_2 a0_3 a0_4 a0_5 (show P3 a0_0 a0_1 a0_2 a0_3 a0_4 a0_5 from ⟨i0_0, i0_1, i0_2, i0_3, i0_4, i0_5⟩) _).mono ?_; rintro e w10 ⟨⟨U1, u1, rfl, S1⟩, B⟩; have RB10 := Lib.hid (RB9.out.trans (B.mono RB9.out.size)); have RV1_10 := Lib.hid S1; clear B S1)
              | (go_at_call 16; have := RB8; clear this; refine (alive6 _ (FT_8.out.below RB8.out (Nat.le_refl _)) (FW_8.out.below RB8.out (Nat.le_refl _))).mono ?_; rintro e w9 ⟨rfl, B⟩; have RB9 := Lib.hid (RB8.out.trans (B.mono RB8.out.size)); clear B ))
      have FT_12 := Lib.hid (FT_8.out.below RB12.out (Nat.le_refl _))
      have FW_12 := Lib.hid (FW_8.out.below RB12.out (Nat.le_refl _))
      have FA_12 := Lib.hid (FA_8.out.below RB12.out (Nat.le_refl _))
      have FQ_12 := Lib.hid (FQ_8.out.below RB12.out (Nat.le_refl _))
      have FX5_12 := Lib.hid (FX5_8.out.below RB12.out (Nat.le_refl _))
      have FX6_12 := Lib.hid (FX6_8.out.below RB12.out (Nat.le_refl _))
      have FX7_12 := Lib.hid (FX7_8.out.below RB12.out (Nat.le_refl _))
      have FY0_12 := Lib.hid (FY0_8.out.below RB12.out (Nat.le_refl _))
      have FY1_12 := Lib.hid (FY1_8.out.below RB12.out (Nat.le_refl _))
      have FY2_12 := Lib.hid (FY2_8.out.below RB12.out (Nat.le_refl _))
      have HB12 := Lib.hid (HB8.out.trans (RB12.out.mono HB8.out.size))
      clear HB8 FT_8 FW_8 FA_8 FQ_8 FX5_8 FX6_8 FX7_8 FY0_8 FY1_8 FY2_8
      go_wp2_with fail
      go_ret
      exact ⟨rfl, HB12.out⟩
  · have HB_0 := Lib.hid hb0; clear hb0; have hb0 := HB_0; clear HB_0
    have HB_1 := Lib.hid hb1; clear hb1; have hb1 := HB_1; clear HB_1
    have HB_2 := Lib.hid hb2; clear hb2; have hb2 := HB_2; clear HB_2
    have hd : decide (flI t0 + flI t1 + flI t2 < 3) = true := by
      have : flI t0 + flI t1 + flI t2 < 3 := by cases t0 <;> cases t1 <;> cases t2 <;> simp [flI] at hall ⊢
      simpa using this
    clear hall
    go_enter Tryd.func6, Tryd.ntmps6
    go_wp2_with fail
    have B : Below w.heap.size w ((w.alloc (.cells #[.int .i64 a0_0, .int .i64 a0_1, .int .i64 a0_2, .int .i64 a0_3, .int .i64 a0_4, .int .i64 a0_5] 41)).alloc (.cells #[.int .i64 a1, .int .i64 b1] 23)) := ((HB0.out.alloc HB0.out.size _).alloc (HB0.out.alloc HB0.out.size _).size _)
    have C : Below w.heap.size w ((w.alloc (.cells #[.int .i64 a0_0, .int .i64 a0_1, .int .i64 a0_2, .int .i64 a0_3, .int .i64 a0_4, .int .i64 a0_5] 41)).alloc (.cells #[.int .i64 a1, .int .i64 b1] 23)) := (((Below.refl w.heap.size w).alloc (Nat.le_refl _) _).alloc (by simp; try omega) _)
    have X0 : Bx ((w.alloc (.cells #[.int .i64 a0_0, .int .i64 a0_1, .int .i64 a0_2, .int .i64 a0_3, .int .i64 a0_4, .int .i64 a0_5] 41)).alloc (.cells #[.int .i64 a1, .int .i64 b1] 23)) (w.heap.size) #[.int .i64 a0_0, .int .i64 a0_1, .int .i64 a0_2, .int .i64 a0_3, .int .i64 a0_4, .int .i64 a0_5] 41 := by simpa using ((Bx.new w #[.int .i64 a0_0, .int .i64 a0_1, .int .i64 a0_2, .int .i64 a0_3, .int .i64 a0_4, .int .i64 a0_5] 41).alloc _)
    have X1 : Bx ((w.alloc (.cells #[.int .i64 a0_0, .int .i64 a0_1, .int .i64 a0_2, .int .i64 a0_3, .int .i64 a0_4, .int .i64 a0_5] 41)).alloc (.cells #[.int .i64 a1, .int .i64 b1] 23)) (w.heap.size + 1) #[.int .i64 a1, .int .i64 b1] 23 := by simpa using (Bx.new (w.alloc (.cells #[.int .i64 a0_0, .int .i64 a0_1, .int .i64 a0_2, .int .i64 a0_3, .int .i64 a0_4, .int .i64 a0_5] 41)) #[.int .i64 a1, .int .i64 b1] 23)
    have FT_1 := Lib.hid (FT.out.below C (Nat.le_refl _))
    have FW_1 := Lib.hid (FW.out.below C (Nat.le_refl _))
    have HB1 := Lib.hid B
    have FA_1 := Lib.hid X0
    have FQ_1 := Lib.hid X1
    clear B C X0 X1 HB0 FT FW
    generalize ((w.alloc (.cells #[.int .i64 a0_0, .int .i64 a0_1, .int .i64 a0_2, .int .i64 a0_3, .int .i64 a0_4, .int .i64 a0_5] 41)).alloc (.cells #[.int .i64 a1, .int .i64 b1] 23)) = w1 at *
    go_upto_region 1 with (fail)
    have M0 := trivial
    have QF := Lib.hid (show ∀ w', Below w1.heap.size w1 w' → w'.cell? ⟨w.heap.size, 0, none⟩ = some (.int .i64 a0_0) ∧ w'.cell? ⟨w.heap.size, 1, none⟩ = some (.int .i64 a0_1) ∧ w'.cell? ⟨w.heap.size, 2, none⟩ = some (.int .i64 a0_2) ∧ w'.cell? ⟨w.heap.size, 3, none⟩ = some (.int .i64 a0_3) ∧ w'.cell? ⟨w.heap.size, 4, none⟩ = some (.int .i64 a0_4) ∧ w'.cell? ⟨w.heap.size, 5, none⟩ = some (.int .i64 a0_5) from fun w' hb => ⟨(FA_1.out.below hb (Nat.le_refl _)).cell 0 (v := .int .i64 a0_0) rfl, (FA_1.out.below hb (Nat.le_refl _)).cell 1 (v := .int .i64 a0_1) rfl, (FA_1.out.below hb (Nat.le_refl _)).cell 2 (v := .int .i64 a0_2) rfl, (FA_1.out.below hb (Nat.le_refl _)).cell 3 (v := .int .i64 a0_3) rfl, (FA_1.out.below hb (Nat.le_refl _)).cell 4 (v := .int .i64 a0_4) rfl, (FA_1.out.below hb (Nat.le_refl _)).cell 5 (v := .int .i64 a0_5) rfl⟩)
    go_cut [5, 6, 7] (fun s5 s6 s7 wx => Cut3P w1 a0_0 a0_1 a0_2 a0_3 a0_4 a0_5 s5 s6 s7 wx)
    case first =>
      go_region_held3 (fun w' => w'.cell? ⟨w.heap.size, 0, none⟩ = some (.int .i64 a0_0) ∧ w'.cell? ⟨w.heap.size, 1, none⟩ = some (.int .i64 a0_1) ∧ w'.cell? ⟨w.heap.size, 2, none⟩ = some (.int .i64 a0_2) ∧ w'.cell? ⟨w.heap.size, 3, none⟩ = some (.int .i64 a0_3) ∧ w'.cell? ⟨w.heap.size, 4, none⟩ = some (.int .i64 a0_4) ∧ w'.cell? ⟨w.heap.size, 5, none⟩ = some (.int .i64 a0_5)) (first | (with_reducible refine QF.out _ ?_; (repeat (first | with_reducible exact below_rf | with_reducible refine below_dr ?_ | with_reducible refine below_al ?_ | (with_reducible refine below_st ?_ ?_; (focus (first | with_reducible assumption | with_reducible exact Nat.le_refl _ | (simp; done) | omega | (simp <;> omega)))))); done)) (first
              | fail)
      all_goals (go_wp2_with fail; go_meet; exact ⟨_, _, _, rfl, rfl, rfl, by (repeat (first | (with_reducible refine bx_set2 (z0 := .int .i64 0) (z1 := .int .i64 0) ?_) | (with_reducible refine bx_new ?_; (focus (first | with_reducible rfl | (simp; done)))) | with_reducible refine bx_al ?_ | (with_reducible refine bx_ot ?_ ?_; (focus (first | (simp; done) | omega | (simp <;> omega)))) | with_reducible refine bx_dr ?_)), by (repeat (first | (with_reducible refine bx_set2 (z0 := .int .i64 0) (z1 := .int .i64 0) ?_) | (with_reducible refine bx_new ?_; (focus (first | with_reducible rfl | (simp; done)))) | with_reducible refine bx_al ?_ | (with_reducible refine bx_ot ?_ ?_; (focus (first | (simp; done) | omega | (simp <;> omega)))) | with_reducible refine bx_dr ?_)), by (repeat (first | (with_reducible refine bx_set2 (z0 := .int .i64 0) (z1 := .int .i64 0) ?_) | (with_reducible refine bx_new ?_; (focus (first | with_reducible rfl | (simp; done)))) | with_reducible refine bx_al ?_ | (with_reducible refine bx_ot ?_ ?_; (focus (first | (simp; done) | omega | (simp <;> omega)))) | with_reducible refine bx_dr ?_)), by (repeat (first | with_reducible exact below_rf | with_reducible refine below_dr ?_ | with_reducible refine below_al ?_ | (with_reducible refine below_st ?_ ?_; (focus (first | with_reducible assumption | with_reducible exact Nat.le_refl _ | (simp; done) | omega | (simp <;> omega))))))⟩)
    case rest =>
      clear QF M0
      obtain ⟨b5, b6, b7, rfl, rfl, rfl, H5, H6, H7, HCB⟩ := hcut
      have FT_2 := Lib.hid (FT_1.out.below HCB (Nat.le_refl _)); clear FT_1
      have FW_2 := Lib.hid (FW_1.out.below HCB (Nat.le_refl _)); clear FW_1
      have FA_2 := Lib.hid (FA_1.out.below HCB (Nat.le_refl _)); clear FA_1
      have FQ_2 := Lib.hid (FQ_1.out.below HCB (Nat.le_refl _)); clear FQ_1
      have HB2 := Lib.hid (HB1.out.trans (HCB.mono HB1.out.size)); clear HCB HB1
      have FX5 := Lib.hid H5; clear H5
      have FX6 := Lib.hid H6; clear H6
      have FX7 := Lib.hid H7; clear H7
      have vX50 := FX5.out.cell 0 (v := .int .i64 a0_0) rfl
      have vX51 := FX5.out.cell 1 (v := .int .i64 a0_1) rfl
      have vQ0 := FQ_2.out.cell 0 (v := .int .i64 a1) rfl
      have vQ1 := FQ_2.out.cell 1 (v := .int .i64 b1) rfl
      go_wp2_with fail
      refine (law6_shift a0_0 a0_1 a1 b1 i0_0 i0_1 ia1 ib1 _ hb0.out _).mono ?_
      rintro e w3 ⟨rfl, B⟩
      clear vX50 vX51 vQ0 vQ1
      have HB3 := Lib.hid (HB2.out.trans (B.mono HB2.out.size))
      have FT_3 := Lib.hid (FT_2.out.below B (Nat.le_refl _))
      have FW_3 := Lib.hid (FW_2.out.below B (Nat.le_refl _))
      have FA_3 := Lib.hid (FA_2.out.below B (Nat.le_refl _))
      have FQ_3 := Lib.hid (FQ_2.out.below B (Nat.le_refl _))
      have FX5_3 := Lib.hid (FX5.out.below B (Nat.le_refl _))
      have FX6_3 := Lib.hid (FX6.out.below B (Nat.le_refl _))
      have FX7_3 := Lib.hid (FX7.out.below B (Nat.le_refl _))
      clear B  HB2 FT_2 FW_2 FA_2 FQ_2 FX5 FX6 FX7
      have vX60 := FX6_3.out.cell 0 (v := .int .i64 a0_2) rfl
      have vX61 := FX6_3.out.cell 1 (v := .int .i64 a0_3) rfl
      have vQ0 := FQ_3.out.cell 0 (v := .int .i64 a1) rfl
      have vQ1 := FQ_3.out.cell 1 (v := .int .i64 b1) rfl
      have vl1 := FX6_3.out.lt; have vl2 := FQ_3.out.lt
      go_wp2_with fail
      clear vX60 vX61 vQ0 vQ1 vl1 vl2
      have B : Below w.heap.size w (w3.alloc (.cells #[.int .i64 (wrap64 (a0_0 + a1)), .int .i64 (wrap64 (a0_1 + b1))] 23)) := (HB3.out.alloc HB3.out.size _)
      have C : Below w3.heap.size w3 (w3.alloc (.cells #[.int .i64 (wrap64 (a0_0 + a1)), .int .i64 (wrap64 (a0_1 + b1))] 23)) := ((Below.refl w3.heap.size w3).alloc (Nat.le_refl _) _)
      have X0 : Bx (w3.alloc (.cells #[.int .i64 (wrap64 (a0_0 + a1)), .int .i64 (wrap64 (a0_1 + b1))] 23)) (w3.heap.size) #[.int .i64 (wrap64 (a0_0 + a1)), .int .i64 (wrap64 (a0_1 + b1))] 23 := by simpa using (Bx.new w3 #[.int .i64 (wrap64 (a0_0 + a1)), .int .i64 (wrap64 (a0_1 + b1))] 23)
      have FT_4 := Lib.hid (FT_3.out.below C (Nat.le_refl _))
      have FW_4 := Lib.hid (FW_3.out.below C (Nat.le_refl _))
      have FA_4 := Lib.hid (FA_3.out.below C (Nat.le_refl _))
      have FQ_4 := Lib.hid (FQ_3.out.below C (Nat.le_refl _))
      have FX5_4 := Lib.hid (FX5_3.out.below C (Nat.le_refl _))
      have FX6_4 := Lib.hid (FX6_3.out.below C (Nat.le_refl _))
      have FX7_4 := Lib.hid (FX7_3.out.below C (Nat.le_refl _))
      have HB4 := Lib.hid B
      have FY0_4 := Lib.hid X0
      clear B C X0 HB3 FT_3 FW_3 FA_3 FQ_3 FX5_3 FX6_3 FX7_3
      generalize (w3.alloc (.cells #[.int .i64 (wrap64 (a0_0 + a1)), .int .i64 (wrap64 (a0_1 + b1))] 23)) = w4 at *
      skip
      refine (law6_shift a0_2 a0_3 a1 b1 i0_2 i0_3 ia1 ib1 _ hb1.out _).mono ?_
      rintro e w5 ⟨rfl, B⟩
      have HB5 := Lib.hid (HB4.out.trans (B.mono HB4.out.size))
      have FT_5 := Lib.hid (FT_4.out.below B (Nat.le_refl _))
      have FW_5 := Lib.hid (FW_4.out.below B (Nat.le_refl _))
      have FA_5 := Lib.hid (FA_4.out.below B (Nat.le_refl _))
      have FQ_5 := Lib.hid (FQ_4.out.below B (Nat.le_refl _))
      have FX5_5 := Lib.hid (FX5_4.out.below B (Nat.le_refl _))
      have FX6_5 := Lib.hid (FX6_4.out.below B (Nat.le_refl _))
      have FX7_5 := Lib.hid (FX7_4.out.below B (Nat.le_refl _))
      have FY0_5 := Lib.hid (FY0_4.out.below B (Nat.le_refl _))
      clear B  HB4 FT_4 FW_4 FA_4 FQ_4 FX5_4 FX6_4 FX7_4 FY0_4
      have vX70 := FX7_5.out.cell 0 (v := .int .i64 a0_4) rfl
      have vX71 := FX7_5.out.cell 1 (v := .int .i64 a0_5) rfl
      have vQ0 := FQ_5.out.cell 0 (v := .int .i64 a1) rfl
      have vQ1 := FQ_5.out.cell 1 (v := .int .i64 b1) rfl
      have vl1 := FX7_5.out.lt; have vl2 := FQ_5.out.lt
      go_wp2_with fail
      clear vX70 vX71 vQ0 vQ1 vl1 vl2
      have B : Below w.heap.size w (w5.alloc (.cells #[.int .i64 (wrap64 (a0_2 + a1)), .int .i64 (wrap64 (a0_3 + b1))] 23)) := (HB5.out.alloc HB5.out.size _)
      have C : Below w5.heap.size w5 (w5.alloc (.cells #[.int .i64 (wrap64 (a0_2 + a1)), .int .i64 (wrap64 (a0_3 + b1))] 23)) := ((Below.refl w5.heap.size w5).alloc (Nat.le_refl _) _)
      have X0 : Bx (w5.alloc (.cells #[.int .i64 (wrap64 (a0_2 + a1)), .int .i64 (wrap64 (a0_3 + b1))] 23)) (w5.heap.size) #[.int .i64 (wrap64 (a0_2 + a1)), .int .i64 (wrap64 (a0_3 + b1))] 23 := by simpa using (Bx.new w5 #[.int .i64 (wrap64 (a0_2 + a1)), .int .i64 (wrap64 (a0_3 + b1))] 23)
      have FT_6 := Lib.hid (FT_5.out.below C (Nat.le_refl _))
      have FW_6 := Lib.hid (FW_5.out.below C (Nat.le_refl _))
      have FA_6 := Lib.hid (FA_5.out.below C (Nat.le_refl _))
      have FQ_6 := Lib.hid (FQ_5.out.below C (Nat.le_refl _))
      have FX5_6 := Lib.hid (FX5_5.out.below C (Nat.le_refl _))
      have FX6_6 := Lib.hid (FX6_5.out.below C (Nat.le_refl _))
      have FX7_6 := Lib.hid (FX7_5.out.below C (Nat.le_refl _))
      have FY0_6 := Lib.hid (FY0_5.out.below C (Nat.le_refl _))
      have HB6 := Lib.hid B
      have FY1_6 := Lib.hid X0
      clear B C X0 HB5 FT_5 FW_5 FA_5 FQ_5 FX5_5 FX6_5 FX7_5 FY0_5
      generalize (w5.alloc (.cells #[.int .i64 (wrap64 (a0_2 + a1)), .int .i64 (wrap64 (a0_3 + b1))] 23)) = w6 at *
      skip
      refine (law6_shift a0_4 a0_5 a1 b1 i0_4 i0_5 ia1 ib1 _ hb2.out _).mono ?_
      rintro e w7 ⟨rfl, B⟩
      have HB7 := Lib.hid (HB6.out.trans (B.mono HB6.out.size))
      have FT_7 := Lib.hid (FT_6.out.below B (Nat.le_refl _))
      have FW_7 := Lib.hid (FW_6.out.below B (Nat.le_refl _))
      have FA_7 := Lib.hid (FA_6.out.below B (Nat.le_refl _))
      have FQ_7 := Lib.hid (FQ_6.out.below B (Nat.le_refl _))
      have FX5_7 := Lib.hid (FX5_6.out.below B (Nat.le_refl _))
      have FX6_7 := Lib.hid (FX6_6.out.below B (Nat.le_refl _))
      have FX7_7 := Lib.hid (FX7_6.out.below B (Nat.le_refl _))
      have FY0_7 := Lib.hid (FY0_6.out.below B (Nat.le_refl _))
      have FY1_7 := Lib.hid (FY1_6.out.below B (Nat.le_refl _))
      clear B  HB6 FT_6 FW_6 FA_6 FQ_6 FX5_6 FX6_6 FX7_6 FY0_6 FY1_6
      go_wp2_with fail
      have B : Below w.heap.size w (w7.alloc (.cells #[.int .i64 (wrap64 (a0_4 + a1)), .int .i64 (wrap64 (a0_5 + b1))] 23)) := (HB7.out.alloc HB7.out.size _)
      have C : Below w7.heap.size w7 (w7.alloc (.cells #[.int .i64 (wrap64 (a0_4 + a1)), .int .i64 (wrap64 (a0_5 + b1))] 23)) := ((Below.refl w7.heap.size w7).alloc (Nat.le_refl _) _)
      have X0 : Bx (w7.alloc (.cells #[.int .i64 (wrap64 (a0_4 + a1)), .int .i64 (wrap64 (a0_5 + b1))] 23)) (w7.heap.size) #[.int .i64 (wrap64 (a0_4 + a1)), .int .i64 (wrap64 (a0_5 + b1))] 23 := by simpa using (Bx.new w7 #[.int .i64 (wrap64 (a0_4 + a1)), .int .i64 (wrap64 (a0_5 + b1))] 23)
      have FT_8 := Lib.hid (FT_7.out.below C (Nat.le_refl _))
      have FW_8 := Lib.hid (FW_7.out.below C (Nat.le_refl _))
      have FA_8 := Lib.hid (FA_7.out.below C (Nat.le_refl _))
      have FQ_8 := Lib.hid (FQ_7.out.below C (Nat.le_refl _))
      have FX5_8 := Lib.hid (FX5_7.out.below C (Nat.le_refl _))
      have FX6_8 := Lib.hid (FX6_7.out.below C (Nat.le_refl _))
      have FX7_8 := Lib.hid (FX7_7.out.below C (Nat.le_refl _))
      have FY0_8 := Lib.hid (FY0_7.out.below C (Nat.le_refl _))
      have FY1_8 := Lib.hid (FY1_7.out.below C (Nat.le_refl _))
      have HB8 := Lib.hid B
      have FY2_8 := Lib.hid X0
      clear B C X0 HB7 FT_7 FW_7 FA_7 FQ_7 FX5_7 FX6_7 FX7_7 FY0_7 FY1_7
      generalize (w7.alloc (.cells #[.int .i64 (wrap64 (a0_4 + a1)), .int .i64 (wrap64 (a0_5 + b1))] 23)) = w8 at *
      go_wp2_with fail
      refine (alive6 _ FT_8.out FW_8.out).mono ?_
      rintro e w9 ⟨rfl, B⟩
      have HB9 := Lib.hid (HB8.out.trans (B.mono HB8.out.size))
      have FT_9 := Lib.hid (FT_8.out.below B (Nat.le_refl _))
      have FW_9 := Lib.hid (FW_8.out.below B (Nat.le_refl _))
      have FA_9 := Lib.hid (FA_8.out.below B (Nat.le_refl _))
      have FQ_9 := Lib.hid (FQ_8.out.below B (Nat.le_refl _))
      have FX5_9 := Lib.hid (FX5_8.out.below B (Nat.le_refl _))
      have FX6_9 := Lib.hid (FX6_8.out.below B (Nat.le_refl _))
      have FX7_9 := Lib.hid (FX7_8.out.below B (Nat.le_refl _))
      have FY0_9 := Lib.hid (FY0_8.out.below B (Nat.le_refl _))
      have FY1_9 := Lib.hid (FY1_8.out.below B (Nat.le_refl _))
      have FY2_9 := Lib.hid (FY2_8.out.below B (Nat.le_refl _))
      clear B  HB8 FT_8 FW_8 FA_8 FQ_8 FX5_8 FX6_8 FX7_8 FY0_8 FY1_8 FY2_8
      go_wp2_with fail
      go_ret
      exact ⟨rfl, HB9.out⟩

theorem gTab0 : Tryd.prog.globalNamed "geofence/mask.words" = some 1 := by kernel_rfl
theorem gTabType0 : (Tryd.prog.globals[1]?).map (·.type) = some 69 := by kernel_rfl
theorem cellsT0 : Tryd.prog.cellsOf 69 = 2 := by kernel_rfl
theorem cellsE0 : Tryd.prog.cellsOf 36 = 1 := by kernel_rfl
theorem tableIs0 {W : World} (h : laidMetH Tryd.prog Rows.orientTranslatesRow.laid W) : Lib.TabIs Tryd.prog W "geofence/mask.words" .u64 [9223372036854775808, 18446744073709551615] :=
  Lib.tabIs_of_head (rest := _) gTab0 gTabType0 Tryd.underlying69 Tryd.underlying36 cellsE0 cellsT0 h
theorem table0 {W : World} (h : laidMetH Tryd.prog Rows.orientTranslatesRow.laid W) : TabM W := ⟨(tableIs0 h).cell gTab0 0 (by decide), (tableIs0 h).cell gTab0 1 (by decide)⟩

theorem gTab1 : Tryd.prog.globalNamed "geofence/orient.wanted" = some 0 := by kernel_rfl
theorem gTabType1 : (Tryd.prog.globals[0]?).map (·.type) = some 69 := by kernel_rfl
theorem cellsT1 : Tryd.prog.cellsOf 69 = 2 := by kernel_rfl
theorem cellsE1 : Tryd.prog.cellsOf 36 = 1 := by kernel_rfl
theorem tableIs1 {W : World} (h : laidMetH Tryd.prog Rows.orientTranslatesRow.laid W) : Lib.TabIs Tryd.prog W "geofence/orient.wanted" .u64 [0, 1] :=
  Lib.tabIs_of_head (rest := _) gTab1 gTabType1 Tryd.underlying69 Tryd.underlying36 cellsE1 cellsT1 (laid_tail h)
theorem table1 {W : World} (h : laidMetH Tryd.prog Rows.orientTranslatesRow.laid W) : TabO W := ⟨(tableIs1 h).cell gTab1 0 (by decide), (tableIs1 h).cell gTab1 1 (by decide)⟩

theorem contract (H : Type) (enc : TypeId × Value → H) (W : World) (base : Nat) (args : Array Value) (ds gs : List (DataW H)) (before : List MemPlace)
    (hval : ∀ (j : Nat) t v, Tryd.f6.params[j]? = some t → args[j]? = some v → Value.okWide Tryd.prog W .any base t v)
    (hW : DataW.Whole enc Tryd.prog Tryd.f6.params.toList Rows.orientTranslatesSpec.vars false W args.toList ds gs before) (hL : laidMetH Tryd.prog Rows.orientTranslatesRow.laid W) :
    Calls Tryd.prog 6 args W fun e W' => ∃ v, e = .returned v ∧ Rows.orientTranslatesSpec.post enc Tryd.prog Tryd.f6 false true false false W args v W' := by
  have hW' := hW
  obtain ⟨p, q, hA0, hV, rfl, hfz, hnd⟩ := hW
  have hA : DataW.TrodAll enc Tryd.prog W 0 (fun _ => true) true Tryd.f6.params.toList args.toList ds p := hA0
  rw [Tryd.params6] at hA hval
  obtain ⟨v0, vs0, d0, ds0, p0, q0, hargs, rfl, rfl, h0, r0⟩ := trodAll_cons hA
  obtain ⟨v1, vs1, d1, ds1, p1, q1, rfl, rfl, rfl, h1, r1⟩ := trodAll_cons r0
  obtain ⟨rfl, rfl, rfl⟩ := trodAll_nil r1
  obtain rfl : args = #[v0, v1] := by cases args; simp_all
  obtain ⟨rfl, rfl⟩ := trodVars_none hV
  have k0 := h0
  have lt0 : ∀ x ∈ p0, x.block < W.heap.size := by obtain ⟨m, hm⟩ := k0; exact DataW.trod_lt m _ _ _ hm
  have k1 := h1
  have lt1 : ∀ x ∈ p1, x.block < W.heap.size := by obtain ⟨m, hm⟩ := k1; exact DataW.trod_lt m _ _ _ hm
  obtain ⟨a0_0, a0_1, a0_2, a0_3, a0_4, a0_5, rfl, w0_0, w0_1, w0_2, w0_3, w0_4, w0_5⟩ := Op.open_pts3 Tryd.underlying41 Tryd.underlying23 rfl rfl rfl rfl Tryd.underlying2 (by kernel_rfl) (by kernel_rfl) (by kernel_rfl) h0
  obtain ⟨a1, b1, rfl, w1, x1⟩ := Op.open_pt Tryd.underlying23 rfl rfl rfl rfl Tryd.underlying2 (by kernel_rfl) (by kernel_rfl) h1
  clear hA0
  refine (walk a0_0 a0_1 a0_2 a0_3 a0_4 a0_5 w0_0 w0_1 w0_2 w0_3 w0_4 w0_5 a1 b1 w1 x1 (table0 hL) (table1 hL)).mono fun e W' ⟨he, bel⟩ => ?_
  subst he
  exact ⟨_, rfl, _, _, _, [], _, [], hW', trodAll_mk1 (shut_bool Tryd.underlying4 _), (trodAll_cons_mk (Below.trod laidOut (by kernel_rfl) (of_decide_eq_true (by kernel_rfl)) k0 bel lt0) (trodAll_cons_mk (Below.trod laidOut (by kernel_rfl) (of_decide_eq_true (by kernel_rfl)) k1 bel lt1) trodAll_mk0)), rfl, bel.frame _, fun h => by cases h⟩

noncomputable def laidHeap (os : Os) : Array Obj :=
  ((World.holding Tryd.prog os ⟨#[], #[], []⟩).heap.modify 1 (fun
      | .cells _ t frozen => .cells #[.int .u64 9223372036854775808, .int .u64 18446744073709551615] t frozen
      | o => o)).modify 0 (fun
      | .cells _ t frozen => .cells #[.int .u64 0, .int .u64 1] t frozen
      | o => o)
noncomputable def laidWorld (os : Os) : World :=
  { World.holding Tryd.prog os ⟨#[], #[], []⟩ with heap := laidHeap os }
theorem laid_met (os : Os) : laidMet Tryd.prog Rows.orientTranslatesRow.laid ((laidWorld os).forCall (fun _ _ => 0) ⟨#[], #[.agg #[.int .i64 0, .int .i64 0, .int .i64 0, .int .i64 0, .int .i64 0, .int .i64 0], .agg #[.int .i64 0, .int .i64 0]], []⟩).memory :=
  laidMet_of_run' 8 (by kernel_rfl) (by kernel_rfl)
theorem reads (os : Os) {H : Type} (enc : TypeId × Value → H) : ∃ places, DataW.whole enc Tryd.prog ((laidWorld os).forCall (fun _ _ => 0) ⟨#[], #[.agg #[.int .i64 0, .int .i64 0, .int .i64 0, .int .i64 0, .int .i64 0, .int .i64 0], .agg #[.int .i64 0, .int .i64 0]], []⟩).memory Tryd.f6.params.toList Rows.orientTranslatesSpec.vars false (#[.agg #[.int .i64 0, .int .i64 0, .int .i64 0, .int .i64 0, .int .i64 0, .int .i64 0], .agg #[.int .i64 0, .int .i64 0]] : Array Value).toList 8 = some ([.agg [.agg [.lit (.int .i64 0), .lit (.int .i64 0)], .agg [.lit (.int .i64 0), .lit (.int .i64 0)], .agg [.lit (.int .i64 0), .lit (.int .i64 0)]], .agg [.lit (.int .i64 0), .lit (.int .i64 0)]], [], places) :=
  ⟨[], by kernel_rfl⟩

set_option maxRecDepth 100000 in
theorem lifted (os : Os) (started : os.Started) (H : Type) (enc : TypeId × Value → H) (F : Stop.Interp) :
    ReturnsInHanded {} Tryd.checked os 6 .any ((OpenSpec.ofChange Rows.orientTranslatesSpec).preRow enc Tryd.prog Tryd.f6 Rows.orientTranslatesRow.domain false Rows.orientTranslatesRow.laid) (((OpenSpec.ofChange Rows.orientTranslatesSpec).at F).post enc Tryd.prog Tryd.f6 false true false false) := by
  obtain ⟨places, hx⟩ := reads os enc
  refine returnsInHanded_of_row (C := Tryd.checked) (s := OpenSpec.ofChange Rows.orientTranslatesSpec) own started (by kernel_rfl) Tryd.func6
    (witness_row_at (enc := enc) (C := Tryd.checked) false (laidWorld os) #[.agg #[.int .i64 0, .int .i64 0, .int .i64 0, .int .i64 0, .int .i64 0, .int .i64 0], .agg #[.int .i64 0, .int .i64 0]] rfl (by kernel_rfl) (by kernel_rfl) (by kernel_rfl)
      (OpenSpec.preRow_of_cond 8 hx (by kernel_rfl) (fun k hk => by cases hk) (by kernel_rfl) (laid_met os))) ?_
  intro W base args ds gs before hval hW _ _ _ hL _ _
  exact contract H enc W base args ds gs before hval hW hL

theorem said : Rows.OrientTranslatesSaid :=
  OpenClaim.holds_of_cond 6 Tryd.f6 rfl rfl rfl rfl rfl rfl rfl ⟨rfl, rfl, rfl, rfl, rfl⟩ rfl rfl rfl rfl rfl (by kernel_rfl) Tryd.func6 (by kernel_rfl)
    (of_decide_eq_true (by kernel_rfl)) (by unfold Func.isWrapper; first | (rw [if_pos (by decide +kernel)]; kernel_rfl) | (rw [if_neg (by decide +kernel)]; exact ⟨rfl, rfl⟩))
    (fun os started H enc _ F => by rw [OpenClaim.pre_eq_preRow]; exact lifted os started H enc F)

theorem plain (f : FuncId) (fn : Func) (hf : Tryd.pinned.checked.prog.funcNamed "geofence/geofencelaw06.OrientTranslates" = some f) (hfn : Tryd.pinned.checked.prog.funcs[f]? = some fn) :
    false = Tryd.pinned.checked.prog.looks [] ∧ ∀ (j : Nat) t, fn.params[j]? = some t → Tryd.pinned.checked.prog.wantsStandIn t = false := by
  obtain rfl : f = 6 := Option.some.inj ((show Tryd.prog.funcNamed "geofence/geofencelaw06.OrientTranslates" = some 6 by kernel_rfl).symm.trans hf) |>.symm
  obtain rfl : fn = Tryd.f6 := (Option.some.inj (Tryd.func6.symm.trans hfn)).symm
  refine ⟨by kernel_rfl, fun j t ht => ?_⟩
  rw [Tryd.params6] at ht
  have hm := Array.mem_of_getElem? ht
  simp at hm
  rcases hm with rfl | rfl
  · exact (show Tryd.prog.wantsStandIn 41 = false by kernel_rfl)
  · exact (show Tryd.prog.wantsStandIn 23 = false by kernel_rfl)

/-- THE CARD -/
theorem card : Rows.OrientTranslatesCardSaid :=
  Claim7.holds_tied_plain_at .later [] _ _ _ _ said (fun _ h => by cases h) (by kernel_rfl) (fun _ h => by cases h) orientTranslates_row_tie rfl ⟨rfl, rfl⟩ (by kernel_rfl) rfl plain (by kernel_rfl)
#print axioms card
end Go.Proofs.YtfjanlfbnliokaaDoor.orientTranslates
